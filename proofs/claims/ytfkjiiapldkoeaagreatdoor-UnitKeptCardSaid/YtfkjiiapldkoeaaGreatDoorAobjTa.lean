/- Trees of functions, each checked by the kernel against the code. No condition. -/
import Derived.Test.YtfkjiiapldkoeaaGreatDoorSxF
import Derived.Test.YtfkjiiapldkoeaaGreatDoorProg
import Derived.KernelRfl
set_option linter.unusedVariables false
set_option linter.unusedSimpArgs false
set_option linter.deprecated false
set_option maxRecDepth 100000
namespace Go.Sx
open Go.Proofs
def fS (a:Int) (b:ByteArray) (c:Int) (d:Int) (e:Int) (f:Int) (g:Int) (h:Option Addr) (i j:Nat) (k:Int) (l:Int) (m:Int) (n:ByteArray) (o:Int) (p:Int) (q:Int) (r:Int) (s:Int) (t:Option Addr) (u v:Nat) (w:Int) (x:Int):T :=
 T.new [vI a,.string b,vI c,vI d,vI e,.int .i32 f,vI g,.slice h i j,.int .u32 k,vI l] 96 fun y =>
 T.new [vI m,.string n,vI o,vI p,vI q,.int .i32 r,vI s,.slice t u v,.int .u32 w,vI x] 96 fun z =>
 T.ae y [.int .i64] fun A =>
 T.ae z [.int .i64] fun B =>
 cond (A==B)
 (T.ae (y.add 1) [.string] fun C =>
 T.ae (z.add 1) [.string] fun D =>
 cond ((ByteArray.toList C)==(ByteArray.toList D))
 (T.ae (y.add 2) [.int .i64,.int .i64,.int .i64,.int .i32,.int .i64] fun E F G H I =>
 T.ae (z.add 2) [.int .i64,.int .i64,.int .i64,.int .i32,.int .i64] fun J K L M N =>
 T.aS Tryz.prog (Sx.bU (BinOp.eql) 90 (Operand.tmp 19) (Operand.tmp 21) (.agg #[vI E,vI F,vI G,.int .i32 H,vI I]) (.agg #[vI J,vI K,vI L,.int .i32 M,vI N])) false [(false,[.bool])] fun O =>
 cond O
 (T.ae (y.add 7) [.slice 109,.int .u32] fun P Q R S =>
 T.ae (z.add 7) [.slice 109,.int .u32] fun U V W X =>
 T.call Tryz.prog 75 [.agg #[.slice P Q R,.int .u32 S],.agg #[.slice U V W,.int .u32 X]] false [(false,[.bool])] fun Y =>
 cond Y
 (T.ae (y.add 9) [.int .i64] fun Z =>
 T.ae (z.add 9) [.int .i64] fun a0 =>
 T.ret (.bool (Z==a0)))
 (T.ret (.bool false)))
 (T.ret (.bool false)))
 (T.ret (.bool false)))
 (T.ret (.bool false))
theorem jz (a:Int) (b:ByteArray) (c:Int) (d:Int) (e:Int) (f:Int) (g:Int) (h:Option Addr) (i j:Nat) (k:Int) (l:Int) (m:Int) (n:ByteArray) (o:Int) (p:Int) (q:Int) (r:Int) (s:Int) (t:Option Addr) (u v:Nat) (w:Int) (x:Int):aZ Tryz.prog [] Tryz.f61 [.agg #[vI a,.string b,vI c,vI d,vI e,.int .i32 f,vI g,.slice h i j,.int .u32 k,vI l],.agg #[vI m,.string n,vI o,vI p,vI q,.int .i32 r,vI s,.slice t u v,.int .u32 w,vI x]]=fS a b c d e f g h i j k l m n o p q r s t u v w x:=by kernel_rfl
def kG (a:Option Addr) (b c:Nat) (d:Option Addr) (e f:Nat):T :=
 cond ((b:Int) != (e:Int))
 (T.ret (.bool false))
 (T.loop [(false,[.bool]),(false,[.int .i64])] [.bool false,vI 0] fun g h =>
 cond (decide (h<(b:Int)))
 (T.need (((0:Int)≤h)∧(h<(b:Int))) <|
 T.aw a fun i =>
 T.ae (i.add ((Int.toNat h)*10)) yI fun j k l m n o p q r s t u =>
 T.need (((0:Int)≤h)∧(h<(e:Int))) <|
 T.aw d fun v =>
 T.ae (v.add ((Int.toNat h)*10)) yI fun w x y z A B C D E F G H =>
 T.call Tryz.prog 61 [.agg #[vI j,.string k,vI l,vI m,vI n,.int .i32 o,vI p,.slice q r s,.int .u32 t,vI u],.agg #[vI w,.string x,vI y,vI z,vI A,.int .i32 B,vI C,.slice D E F,.int .u32 G,vI H]] false [(false,[.bool])] fun I =>
 cond (!I)
 (T.ret (.bool false))
 (T.again 0 [.bool g,vI (IntKind.wrap .i64 (h+(1:Int)))]))
 (T.ret (.bool true)))
theorem iZ (a:Option Addr) (b c:Nat) (d:Option Addr) (e f:Nat):aZ Tryz.prog [] Tryz.f31 [.slice a b c,.slice d e f]=kG a b c d e f:=by kernel_rfl
def kW (a:Option Addr) (b c:Nat) (d:Option Addr) (e f:Nat):T :=
 cond ((b:Int) != (e:Int))
 (T.ret (.bool false))
 (T.loop [(false,[.bool]),(false,[.int .i64])] [.bool false,vI 0] fun g h =>
 cond (decide (h<(b:Int)))
 (T.need (((0:Int)≤h)∧(h<(b:Int))) <|
 T.aw a fun i =>
 T.ae (i.add ((Int.toNat h)*3)) [.string] fun j =>
 T.need (((0:Int)≤h)∧(h<(e:Int))) <|
 T.aw d fun k =>
 T.ae (k.add ((Int.toNat h)*3)) [.string] fun l =>
 cond (!((ByteArray.toList j)==(ByteArray.toList l)))
 (T.ret (.bool false))
 (T.need (((0:Int)≤h)∧(h<(b:Int))) <|
 T.aw a fun m =>
 T.ae ((m.add ((Int.toNat h)*3)).add 1) [.slice 109,.int .u32] fun n o p q =>
 T.need (((0:Int)≤h)∧(h<(e:Int))) <|
 T.aw d fun r =>
 T.ae ((r.add ((Int.toNat h)*3)).add 1) [.slice 109,.int .u32] fun s t u v =>
 T.call Tryz.prog 75 [.agg #[.slice n o p,.int .u32 q],.agg #[.slice s t u,.int .u32 v]] false [(false,[.bool])] fun w =>
 T.aB [((k.add ((Int.toNat h)*3)),[.string l]),((i.add ((Int.toNat h)*3)),[.string j])] <|
 cond (!w)
 (T.ret (.bool false))
 (T.again 0 [.bool g,vI (IntKind.wrap .i64 (h+(1:Int)))])))
 (T.ret (.bool true)))
theorem jQ (a:Option Addr) (b c:Nat) (d:Option Addr) (e f:Nat):aZ Tryz.prog [] Tryz.f41 [.slice a b c,.slice d e f]=kW a b c d e f:=by kernel_rfl
def je (a:Option Addr) (b c:Nat) (d:Option Addr) (e f:Nat):T :=
 cond ((b:Int) != (e:Int))
 (T.ret (.bool false))
 (T.loop [(false,[.bool]),(false,[.int .i64])] [.bool false,vI 0] fun g h =>
 cond (decide (h<(b:Int)))
 (T.need (((0:Int)≤h)∧(h<(b:Int))) <|
 T.aw a fun i =>
 T.ae (i.add ((Int.toNat h)*1)) [.string] fun j =>
 T.need (((0:Int)≤h)∧(h<(e:Int))) <|
 T.aw d fun k =>
 T.ae (k.add ((Int.toNat h)*1)) [.string] fun l =>
 cond (!((ByteArray.toList j)==(ByteArray.toList l)))
 (T.ret (.bool false))
 (T.again 0 [.bool g,vI (IntKind.wrap .i64 (h+(1:Int)))]))
 (T.ret (.bool true)))
theorem dS (a:Option Addr) (b c:Nat) (d:Option Addr) (e f:Nat):aZ Tryz.prog [] Tryz.f15 [.slice a b c,.slice d e f]=je a b c d e f:=by kernel_rfl
def fM (a:Option Addr) (b c:Nat) (d:Option Addr) (e f:Nat) (g:Option Addr) (h i:Nat) (j:Option Addr) (k l:Nat) (m:Option Addr) (n o:Nat) (p:Option Addr) (q r:Nat) (s:Option Addr) (t u:Nat) (v:Option Addr) (w x:Nat):T :=
 T.new [.slice a b c,.slice d e f,.slice g h i,.slice j k l] 27 fun y =>
 T.new [.slice m n o,.slice p q r,.slice s t u,.slice v w x] 27 fun z =>
 T.ae y [.slice 96] fun A B C =>
 T.ae z [.slice 96] fun D E F =>
 T.call Tryz.prog 31 [.slice A B C,.slice D E F] false [(false,[.bool])] fun G =>
 cond G
 (T.ae (y.add 1) [.slice 96] fun H I J =>
 T.ae (z.add 1) [.slice 96] fun K L M =>
 T.call Tryz.prog 31 [.slice H I J,.slice K L M] false [(false,[.bool])] fun N =>
 cond N
 (T.ae (y.add 2) [.slice 99] fun O P Q =>
 T.ae (z.add 2) [.slice 99] fun R S U =>
 T.call Tryz.prog 41 [.slice O P Q,.slice R S U] false [(false,[.bool])] fun V =>
 cond V
 (T.ae (y.add 3) [.slice 9] fun W X Y =>
 T.ae (z.add 3) [.slice 9] fun Z a0 a1 =>
 T.call Tryz.prog 15 [.slice W X Y,.slice Z a0 a1] false [(false,[.bool])] fun a2 =>
 T.ret (.bool a2))
 (T.ret (.bool false)))
 (T.ret (.bool false)))
 (T.ret (.bool false))
theorem jC (a:Option Addr) (b c:Nat) (d:Option Addr) (e f:Nat) (g:Option Addr) (h i:Nat) (j:Option Addr) (k l:Nat) (m:Option Addr) (n o:Nat) (p:Option Addr) (q r:Nat) (s:Option Addr) (t u:Nat) (v:Option Addr) (w x:Nat):aZ Tryz.prog [] Tryz.f13 [.agg #[.slice a b c,.slice d e f,.slice g h i,.slice j k l],.agg #[.slice m n o,.slice p q r,.slice s t u,.slice v w x]]=fM a b c d e f g h i j k l m n o p q r s t u v w x:=by kernel_rfl
def fK (a:Option Addr) (b c:Nat) (d:Option Addr) (e f:Nat) (g:Option Addr) (h i:Nat) (j:Option Addr) (k l:Nat):T :=
 T.new [.slice a b c,.slice d e f,.slice g h i,.slice j k l] 27 fun m =>
 T.new [.slice none 0 0,.slice none 0 0,.slice none 0 0,.slice none 0 0] 27 fun n =>
 T.ae m [.slice 96] fun o p q =>
 T.ae (m.add 1) [.slice 96] fun r s t =>
 T.ae (m.add 3) [.slice 9] fun u v w =>
 T.all [ (T.call Tryz.prog 54 [.slice o p q] false [(false,[.slice 96])] fun x y z =>
 T.aB [((m.add 3),[.slice u v w]),((m.add 1),[.slice r s t])] <|
 T.all [ (T.call Tryz.prog 54 [.slice r s t] false [(false,[.slice 96])] fun A B C =>
 T.aB [((m.add 3),[.slice u v w]),(m,[.slice o p q])] <|
 T.all [ (T.aS Tryz.prog (Instr.buildSlice 25 0 #[]) false [(false,[.slice 0])] fun D E F =>
 T.aB [((m.add 3),[.slice u v w]),((m.add 1),[.slice r s t]),(m,[.slice o p q])] <|
 T.all [ (T.aS Tryz.prog (Builtin.append_ #[25,25] 25 #[.slice D E F,.slice u v w]) false [(false,[.slice 0])] fun G H I =>
 T.aB [((m.add 1),[.slice r s t]),(m,[.slice o p q])] <|
 T.new [.slice none 0 0,.slice none 0 0,.slice none 0 0,.slice none 0 0] 27 fun J =>
 T.aB [((m.add 3),[.slice u v w]),((m.add 1),[.slice r s t]),(m,[.slice o p q])] <|
 T.ao J [.slice x y z,.slice A B C,.slice none 0 0,.slice G H I] <|
 T.loop [(false,[.int .i64])] [vI 0] fun K =>
 T.ae (m.add 2) [.slice 99] fun L M N =>
 cond (decide (K<(M:Int)))
 (T.ae (J.add 2) [.slice 99] fun O P Q =>
 T.ae (m.add 2) [.slice 99] fun R S U =>
 T.need (((0:Int)≤K)∧(K<(S:Int))) <|
 T.aw R fun V =>
 T.ae (V.add ((Int.toNat K)*3)) [.string] fun W =>
 T.ae (m.add 2) [.slice 99] fun X Y Z =>
 T.need (((0:Int)≤K)∧(K<(Y:Int))) <|
 T.aw X fun a0 =>
 T.ae ((a0.add ((Int.toNat K)*3)).add 1) [.slice 109,.int .u32] fun a1 a2 a3 a4 =>
 T.call Tryz.prog 55 [.agg #[.slice a1 a2 a3,.int .u32 a4]] false [(true,[.slice 109,.int .u32])] fun a5 a6 a7 a8 =>
 T.aB [((m.add 2),[.slice X Y Z]),((V.add ((Int.toNat K)*3)),[.string W]),((m.add 2),[.slice R S U]),((J.add 2),[.slice O P Q])] <|
 T.aS Tryz.prog (Instr.buildSlice 24 1 #[(0,.agg #[.string W,.slice a5 a6 a7,.int .u32 a8])]) false [(false,[.slice 0])] fun a9 b0 b1 =>
 T.aB [(((a0.add ((Int.toNat K)*3)).add 1),[.slice a1 a2 a3,.int .u32 a4]),((m.add 2),[.slice X Y Z]),((V.add ((Int.toNat K)*3)),[.string W]),((m.add 2),[.slice R S U]),((J.add 2),[.slice O P Q])] <|
 T.aS Tryz.prog (Builtin.append_ #[24,24] 24 #[.slice O P Q,.slice a9 b0 b1]) false [(false,[.slice 0])] fun b2 b3 b4 =>
 T.aB [(((a0.add ((Int.toNat K)*3)).add 1),[.slice a1 a2 a3,.int .u32 a4]),((m.add 2),[.slice X Y Z]),((V.add ((Int.toNat K)*3)),[.string W]),((m.add 2),[.slice R S U])] <|
 T.ao (J.add 2) [.slice b2 b3 b4] <|
 T.again 0 [vI (IntKind.wrap .i64 (K+(1:Int)))])
 (T.ae J [.slice 96,.slice 96,.slice 99,.slice 9] fun O P Q R S U V W X Y Z a0 =>
 T.ao n [.slice O P Q,.slice R S U,.slice V W X,.slice Y Z a0] <|
 T.ae n [.slice 96,.slice 96,.slice 99,.slice 9] fun a1 a2 a3 a4 a5 a6 a7 a8 a9 b0 b1 b2 =>
 T.ret (.agg #[.slice a1 a2 a3,.slice a4 a5 a6,.slice a7 a8 a9,.slice b0 b1 b2]))),
 (T.new [.slice none 0 0,.slice none 0 0,.slice none 0 0,.slice none 0 0] 27 fun G =>
 T.aB [((m.add 3),[.slice u v w]),((m.add 1),[.slice r s t]),(m,[.slice o p q])] <|
 T.aS Tryz.prog (Builtin.append_ #[25,25] 25 #[.slice D E F,.slice u v w]) false [(false,[.slice 0])] fun H I J =>
 T.aB [((m.add 1),[.slice r s t]),(m,[.slice o p q])] <|
 T.ao G [.slice x y z,.slice A B C,.slice none 0 0,.slice H I J] <|
 T.loop [(false,[.int .i64])] [vI 0] fun K =>
 T.ae (m.add 2) [.slice 99] fun L M N =>
 cond (decide (K<(M:Int)))
 (T.ae (G.add 2) [.slice 99] fun O P Q =>
 T.ae (m.add 2) [.slice 99] fun R S U =>
 T.need (((0:Int)≤K)∧(K<(S:Int))) <|
 T.aw R fun V =>
 T.ae (V.add ((Int.toNat K)*3)) [.string] fun W =>
 T.ae (m.add 2) [.slice 99] fun X Y Z =>
 T.need (((0:Int)≤K)∧(K<(Y:Int))) <|
 T.aw X fun a0 =>
 T.ae ((a0.add ((Int.toNat K)*3)).add 1) [.slice 109,.int .u32] fun a1 a2 a3 a4 =>
 T.call Tryz.prog 55 [.agg #[.slice a1 a2 a3,.int .u32 a4]] false [(true,[.slice 109,.int .u32])] fun a5 a6 a7 a8 =>
 T.aB [((m.add 2),[.slice X Y Z]),((V.add ((Int.toNat K)*3)),[.string W]),((m.add 2),[.slice R S U]),((G.add 2),[.slice O P Q])] <|
 T.aS Tryz.prog (Instr.buildSlice 24 1 #[(0,.agg #[.string W,.slice a5 a6 a7,.int .u32 a8])]) false [(false,[.slice 0])] fun a9 b0 b1 =>
 T.aB [(((a0.add ((Int.toNat K)*3)).add 1),[.slice a1 a2 a3,.int .u32 a4]),((m.add 2),[.slice X Y Z]),((V.add ((Int.toNat K)*3)),[.string W]),((m.add 2),[.slice R S U]),((G.add 2),[.slice O P Q])] <|
 T.aS Tryz.prog (Builtin.append_ #[24,24] 24 #[.slice O P Q,.slice a9 b0 b1]) false [(false,[.slice 0])] fun b2 b3 b4 =>
 T.aB [(((a0.add ((Int.toNat K)*3)).add 1),[.slice a1 a2 a3,.int .u32 a4]),((m.add 2),[.slice X Y Z]),((V.add ((Int.toNat K)*3)),[.string W]),((m.add 2),[.slice R S U])] <|
 T.ao (G.add 2) [.slice b2 b3 b4] <|
 T.again 0 [vI (IntKind.wrap .i64 (K+(1:Int)))])
 (T.ae G [.slice 96,.slice 96,.slice 99,.slice 9] fun O P Q R S U V W X Y Z a0 =>
 T.ao n [.slice O P Q,.slice R S U,.slice V W X,.slice Y Z a0] <|
 T.ae n [.slice 96,.slice 96,.slice 99,.slice 9] fun a1 a2 a3 a4 a5 a6 a7 a8 a9 b0 b1 b2 =>
 T.ret (.agg #[.slice a1 a2 a3,.slice a4 a5 a6,.slice a7 a8 a9,.slice b0 b1 b2])))]),
 (T.new [.slice none 0 0,.slice none 0 0,.slice none 0 0,.slice none 0 0] 27 fun D =>
 T.aB [((m.add 3),[.slice u v w]),((m.add 1),[.slice r s t]),(m,[.slice o p q])] <|
 T.aS Tryz.prog (Instr.buildSlice 25 0 #[]) false [(false,[.slice 0])] fun E F G =>
 T.aB [((m.add 3),[.slice u v w]),((m.add 1),[.slice r s t]),(m,[.slice o p q])] <|
 T.aS Tryz.prog (Builtin.append_ #[25,25] 25 #[.slice E F G,.slice u v w]) false [(false,[.slice 0])] fun H I J =>
 T.aB [((m.add 1),[.slice r s t]),(m,[.slice o p q])] <|
 T.ao D [.slice x y z,.slice A B C,.slice none 0 0,.slice H I J] <|
 T.loop [(false,[.int .i64])] [vI 0] fun K =>
 T.ae (m.add 2) [.slice 99] fun L M N =>
 cond (decide (K<(M:Int)))
 (T.ae (D.add 2) [.slice 99] fun O P Q =>
 T.ae (m.add 2) [.slice 99] fun R S U =>
 T.need (((0:Int)≤K)∧(K<(S:Int))) <|
 T.aw R fun V =>
 T.ae (V.add ((Int.toNat K)*3)) [.string] fun W =>
 T.ae (m.add 2) [.slice 99] fun X Y Z =>
 T.need (((0:Int)≤K)∧(K<(Y:Int))) <|
 T.aw X fun a0 =>
 T.ae ((a0.add ((Int.toNat K)*3)).add 1) [.slice 109,.int .u32] fun a1 a2 a3 a4 =>
 T.call Tryz.prog 55 [.agg #[.slice a1 a2 a3,.int .u32 a4]] false [(true,[.slice 109,.int .u32])] fun a5 a6 a7 a8 =>
 T.aB [((m.add 2),[.slice X Y Z]),((V.add ((Int.toNat K)*3)),[.string W]),((m.add 2),[.slice R S U]),((D.add 2),[.slice O P Q])] <|
 T.aS Tryz.prog (Instr.buildSlice 24 1 #[(0,.agg #[.string W,.slice a5 a6 a7,.int .u32 a8])]) false [(false,[.slice 0])] fun a9 b0 b1 =>
 T.aB [(((a0.add ((Int.toNat K)*3)).add 1),[.slice a1 a2 a3,.int .u32 a4]),((m.add 2),[.slice X Y Z]),((V.add ((Int.toNat K)*3)),[.string W]),((m.add 2),[.slice R S U]),((D.add 2),[.slice O P Q])] <|
 T.aS Tryz.prog (Builtin.append_ #[24,24] 24 #[.slice O P Q,.slice a9 b0 b1]) false [(false,[.slice 0])] fun b2 b3 b4 =>
 T.aB [(((a0.add ((Int.toNat K)*3)).add 1),[.slice a1 a2 a3,.int .u32 a4]),((m.add 2),[.slice X Y Z]),((V.add ((Int.toNat K)*3)),[.string W]),((m.add 2),[.slice R S U])] <|
 T.ao (D.add 2) [.slice b2 b3 b4] <|
 T.again 0 [vI (IntKind.wrap .i64 (K+(1:Int)))])
 (T.ae D [.slice 96,.slice 96,.slice 99,.slice 9] fun O P Q R S U V W X Y Z a0 =>
 T.ao n [.slice O P Q,.slice R S U,.slice V W X,.slice Y Z a0] <|
 T.ae n [.slice 96,.slice 96,.slice 99,.slice 9] fun a1 a2 a3 a4 a5 a6 a7 a8 a9 b0 b1 b2 =>
 T.ret (.agg #[.slice a1 a2 a3,.slice a4 a5 a6,.slice a7 a8 a9,.slice b0 b1 b2])))]),
 (T.aS Tryz.prog (Instr.buildSlice 25 0 #[]) false [(false,[.slice 0])] fun A B C =>
 T.aB [((m.add 3),[.slice u v w]),((m.add 1),[.slice r s t]),(m,[.slice o p q])] <|
 T.all [ (T.call Tryz.prog 54 [.slice r s t] false [(false,[.slice 96])] fun D E F =>
 T.aB [((m.add 3),[.slice u v w]),(m,[.slice o p q])] <|
 T.all [ (T.aS Tryz.prog (Builtin.append_ #[25,25] 25 #[.slice A B C,.slice u v w]) false [(false,[.slice 0])] fun G H I =>
 T.aB [((m.add 1),[.slice r s t]),(m,[.slice o p q])] <|
 T.new [.slice none 0 0,.slice none 0 0,.slice none 0 0,.slice none 0 0] 27 fun J =>
 T.aB [((m.add 3),[.slice u v w]),((m.add 1),[.slice r s t]),(m,[.slice o p q])] <|
 T.ao J [.slice x y z,.slice D E F,.slice none 0 0,.slice G H I] <|
 T.loop [(false,[.int .i64])] [vI 0] fun K =>
 T.ae (m.add 2) [.slice 99] fun L M N =>
 cond (decide (K<(M:Int)))
 (T.ae (J.add 2) [.slice 99] fun O P Q =>
 T.ae (m.add 2) [.slice 99] fun R S U =>
 T.need (((0:Int)≤K)∧(K<(S:Int))) <|
 T.aw R fun V =>
 T.ae (V.add ((Int.toNat K)*3)) [.string] fun W =>
 T.ae (m.add 2) [.slice 99] fun X Y Z =>
 T.need (((0:Int)≤K)∧(K<(Y:Int))) <|
 T.aw X fun a0 =>
 T.ae ((a0.add ((Int.toNat K)*3)).add 1) [.slice 109,.int .u32] fun a1 a2 a3 a4 =>
 T.call Tryz.prog 55 [.agg #[.slice a1 a2 a3,.int .u32 a4]] false [(true,[.slice 109,.int .u32])] fun a5 a6 a7 a8 =>
 T.aB [((m.add 2),[.slice X Y Z]),((V.add ((Int.toNat K)*3)),[.string W]),((m.add 2),[.slice R S U]),((J.add 2),[.slice O P Q])] <|
 T.aS Tryz.prog (Instr.buildSlice 24 1 #[(0,.agg #[.string W,.slice a5 a6 a7,.int .u32 a8])]) false [(false,[.slice 0])] fun a9 b0 b1 =>
 T.aB [(((a0.add ((Int.toNat K)*3)).add 1),[.slice a1 a2 a3,.int .u32 a4]),((m.add 2),[.slice X Y Z]),((V.add ((Int.toNat K)*3)),[.string W]),((m.add 2),[.slice R S U]),((J.add 2),[.slice O P Q])] <|
 T.aS Tryz.prog (Builtin.append_ #[24,24] 24 #[.slice O P Q,.slice a9 b0 b1]) false [(false,[.slice 0])] fun b2 b3 b4 =>
 T.aB [(((a0.add ((Int.toNat K)*3)).add 1),[.slice a1 a2 a3,.int .u32 a4]),((m.add 2),[.slice X Y Z]),((V.add ((Int.toNat K)*3)),[.string W]),((m.add 2),[.slice R S U])] <|
 T.ao (J.add 2) [.slice b2 b3 b4] <|
 T.again 0 [vI (IntKind.wrap .i64 (K+(1:Int)))])
 (T.ae J [.slice 96,.slice 96,.slice 99,.slice 9] fun O P Q R S U V W X Y Z a0 =>
 T.ao n [.slice O P Q,.slice R S U,.slice V W X,.slice Y Z a0] <|
 T.ae n [.slice 96,.slice 96,.slice 99,.slice 9] fun a1 a2 a3 a4 a5 a6 a7 a8 a9 b0 b1 b2 =>
 T.ret (.agg #[.slice a1 a2 a3,.slice a4 a5 a6,.slice a7 a8 a9,.slice b0 b1 b2]))),
 (T.new [.slice none 0 0,.slice none 0 0,.slice none 0 0,.slice none 0 0] 27 fun G =>
 T.aB [((m.add 3),[.slice u v w]),((m.add 1),[.slice r s t]),(m,[.slice o p q])] <|
 T.aS Tryz.prog (Builtin.append_ #[25,25] 25 #[.slice A B C,.slice u v w]) false [(false,[.slice 0])] fun H I J =>
 T.aB [((m.add 1),[.slice r s t]),(m,[.slice o p q])] <|
 T.ao G [.slice x y z,.slice D E F,.slice none 0 0,.slice H I J] <|
 T.loop [(false,[.int .i64])] [vI 0] fun K =>
 T.ae (m.add 2) [.slice 99] fun L M N =>
 cond (decide (K<(M:Int)))
 (T.ae (G.add 2) [.slice 99] fun O P Q =>
 T.ae (m.add 2) [.slice 99] fun R S U =>
 T.need (((0:Int)≤K)∧(K<(S:Int))) <|
 T.aw R fun V =>
 T.ae (V.add ((Int.toNat K)*3)) [.string] fun W =>
 T.ae (m.add 2) [.slice 99] fun X Y Z =>
 T.need (((0:Int)≤K)∧(K<(Y:Int))) <|
 T.aw X fun a0 =>
 T.ae ((a0.add ((Int.toNat K)*3)).add 1) [.slice 109,.int .u32] fun a1 a2 a3 a4 =>
 T.call Tryz.prog 55 [.agg #[.slice a1 a2 a3,.int .u32 a4]] false [(true,[.slice 109,.int .u32])] fun a5 a6 a7 a8 =>
 T.aB [((m.add 2),[.slice X Y Z]),((V.add ((Int.toNat K)*3)),[.string W]),((m.add 2),[.slice R S U]),((G.add 2),[.slice O P Q])] <|
 T.aS Tryz.prog (Instr.buildSlice 24 1 #[(0,.agg #[.string W,.slice a5 a6 a7,.int .u32 a8])]) false [(false,[.slice 0])] fun a9 b0 b1 =>
 T.aB [(((a0.add ((Int.toNat K)*3)).add 1),[.slice a1 a2 a3,.int .u32 a4]),((m.add 2),[.slice X Y Z]),((V.add ((Int.toNat K)*3)),[.string W]),((m.add 2),[.slice R S U]),((G.add 2),[.slice O P Q])] <|
 T.aS Tryz.prog (Builtin.append_ #[24,24] 24 #[.slice O P Q,.slice a9 b0 b1]) false [(false,[.slice 0])] fun b2 b3 b4 =>
 T.aB [(((a0.add ((Int.toNat K)*3)).add 1),[.slice a1 a2 a3,.int .u32 a4]),((m.add 2),[.slice X Y Z]),((V.add ((Int.toNat K)*3)),[.string W]),((m.add 2),[.slice R S U])] <|
 T.ao (G.add 2) [.slice b2 b3 b4] <|
 T.again 0 [vI (IntKind.wrap .i64 (K+(1:Int)))])
 (T.ae G [.slice 96,.slice 96,.slice 99,.slice 9] fun O P Q R S U V W X Y Z a0 =>
 T.ao n [.slice O P Q,.slice R S U,.slice V W X,.slice Y Z a0] <|
 T.ae n [.slice 96,.slice 96,.slice 99,.slice 9] fun a1 a2 a3 a4 a5 a6 a7 a8 a9 b0 b1 b2 =>
 T.ret (.agg #[.slice a1 a2 a3,.slice a4 a5 a6,.slice a7 a8 a9,.slice b0 b1 b2])))]),
 (T.new [.slice none 0 0,.slice none 0 0,.slice none 0 0,.slice none 0 0] 27 fun D =>
 T.aB [((m.add 3),[.slice u v w]),((m.add 1),[.slice r s t]),(m,[.slice o p q])] <|
 T.call Tryz.prog 54 [.slice r s t] false [(false,[.slice 96])] fun E F G =>
 T.aB [((m.add 3),[.slice u v w]),(m,[.slice o p q])] <|
 T.aS Tryz.prog (Builtin.append_ #[25,25] 25 #[.slice A B C,.slice u v w]) false [(false,[.slice 0])] fun H I J =>
 T.aB [((m.add 1),[.slice r s t]),(m,[.slice o p q])] <|
 T.ao D [.slice x y z,.slice E F G,.slice none 0 0,.slice H I J] <|
 T.loop [(false,[.int .i64])] [vI 0] fun K =>
 T.ae (m.add 2) [.slice 99] fun L M N =>
 cond (decide (K<(M:Int)))
 (T.ae (D.add 2) [.slice 99] fun O P Q =>
 T.ae (m.add 2) [.slice 99] fun R S U =>
 T.need (((0:Int)≤K)∧(K<(S:Int))) <|
 T.aw R fun V =>
 T.ae (V.add ((Int.toNat K)*3)) [.string] fun W =>
 T.ae (m.add 2) [.slice 99] fun X Y Z =>
 T.need (((0:Int)≤K)∧(K<(Y:Int))) <|
 T.aw X fun a0 =>
 T.ae ((a0.add ((Int.toNat K)*3)).add 1) [.slice 109,.int .u32] fun a1 a2 a3 a4 =>
 T.call Tryz.prog 55 [.agg #[.slice a1 a2 a3,.int .u32 a4]] false [(true,[.slice 109,.int .u32])] fun a5 a6 a7 a8 =>
 T.aB [((m.add 2),[.slice X Y Z]),((V.add ((Int.toNat K)*3)),[.string W]),((m.add 2),[.slice R S U]),((D.add 2),[.slice O P Q])] <|
 T.aS Tryz.prog (Instr.buildSlice 24 1 #[(0,.agg #[.string W,.slice a5 a6 a7,.int .u32 a8])]) false [(false,[.slice 0])] fun a9 b0 b1 =>
 T.aB [(((a0.add ((Int.toNat K)*3)).add 1),[.slice a1 a2 a3,.int .u32 a4]),((m.add 2),[.slice X Y Z]),((V.add ((Int.toNat K)*3)),[.string W]),((m.add 2),[.slice R S U]),((D.add 2),[.slice O P Q])] <|
 T.aS Tryz.prog (Builtin.append_ #[24,24] 24 #[.slice O P Q,.slice a9 b0 b1]) false [(false,[.slice 0])] fun b2 b3 b4 =>
 T.aB [(((a0.add ((Int.toNat K)*3)).add 1),[.slice a1 a2 a3,.int .u32 a4]),((m.add 2),[.slice X Y Z]),((V.add ((Int.toNat K)*3)),[.string W]),((m.add 2),[.slice R S U])] <|
 T.ao (D.add 2) [.slice b2 b3 b4] <|
 T.again 0 [vI (IntKind.wrap .i64 (K+(1:Int)))])
 (T.ae D [.slice 96,.slice 96,.slice 99,.slice 9] fun O P Q R S U V W X Y Z a0 =>
 T.ao n [.slice O P Q,.slice R S U,.slice V W X,.slice Y Z a0] <|
 T.ae n [.slice 96,.slice 96,.slice 99,.slice 9] fun a1 a2 a3 a4 a5 a6 a7 a8 a9 b0 b1 b2 =>
 T.ret (.agg #[.slice a1 a2 a3,.slice a4 a5 a6,.slice a7 a8 a9,.slice b0 b1 b2])))]),
 (T.new [.slice none 0 0,.slice none 0 0,.slice none 0 0,.slice none 0 0] 27 fun A =>
 T.aB [((m.add 3),[.slice u v w]),((m.add 1),[.slice r s t]),(m,[.slice o p q])] <|
 T.all [ (T.call Tryz.prog 54 [.slice r s t] false [(false,[.slice 96])] fun B C D =>
 T.aB [((m.add 3),[.slice u v w]),(m,[.slice o p q])] <|
 T.aS Tryz.prog (Instr.buildSlice 25 0 #[]) false [(false,[.slice 0])] fun E F G =>
 T.aB [((m.add 3),[.slice u v w]),((m.add 1),[.slice r s t]),(m,[.slice o p q])] <|
 T.aS Tryz.prog (Builtin.append_ #[25,25] 25 #[.slice E F G,.slice u v w]) false [(false,[.slice 0])] fun H I J =>
 T.aB [((m.add 1),[.slice r s t]),(m,[.slice o p q])] <|
 T.ao A [.slice x y z,.slice B C D,.slice none 0 0,.slice H I J] <|
 T.loop [(false,[.int .i64])] [vI 0] fun K =>
 T.ae (m.add 2) [.slice 99] fun L M N =>
 cond (decide (K<(M:Int)))
 (T.ae (A.add 2) [.slice 99] fun O P Q =>
 T.ae (m.add 2) [.slice 99] fun R S U =>
 T.need (((0:Int)≤K)∧(K<(S:Int))) <|
 T.aw R fun V =>
 T.ae (V.add ((Int.toNat K)*3)) [.string] fun W =>
 T.ae (m.add 2) [.slice 99] fun X Y Z =>
 T.need (((0:Int)≤K)∧(K<(Y:Int))) <|
 T.aw X fun a0 =>
 T.ae ((a0.add ((Int.toNat K)*3)).add 1) [.slice 109,.int .u32] fun a1 a2 a3 a4 =>
 T.call Tryz.prog 55 [.agg #[.slice a1 a2 a3,.int .u32 a4]] false [(true,[.slice 109,.int .u32])] fun a5 a6 a7 a8 =>
 T.aB [((m.add 2),[.slice X Y Z]),((V.add ((Int.toNat K)*3)),[.string W]),((m.add 2),[.slice R S U]),((A.add 2),[.slice O P Q])] <|
 T.aS Tryz.prog (Instr.buildSlice 24 1 #[(0,.agg #[.string W,.slice a5 a6 a7,.int .u32 a8])]) false [(false,[.slice 0])] fun a9 b0 b1 =>
 T.aB [(((a0.add ((Int.toNat K)*3)).add 1),[.slice a1 a2 a3,.int .u32 a4]),((m.add 2),[.slice X Y Z]),((V.add ((Int.toNat K)*3)),[.string W]),((m.add 2),[.slice R S U]),((A.add 2),[.slice O P Q])] <|
 T.aS Tryz.prog (Builtin.append_ #[24,24] 24 #[.slice O P Q,.slice a9 b0 b1]) false [(false,[.slice 0])] fun b2 b3 b4 =>
 T.aB [(((a0.add ((Int.toNat K)*3)).add 1),[.slice a1 a2 a3,.int .u32 a4]),((m.add 2),[.slice X Y Z]),((V.add ((Int.toNat K)*3)),[.string W]),((m.add 2),[.slice R S U])] <|
 T.ao (A.add 2) [.slice b2 b3 b4] <|
 T.again 0 [vI (IntKind.wrap .i64 (K+(1:Int)))])
 (T.ae A [.slice 96,.slice 96,.slice 99,.slice 9] fun O P Q R S U V W X Y Z a0 =>
 T.ao n [.slice O P Q,.slice R S U,.slice V W X,.slice Y Z a0] <|
 T.ae n [.slice 96,.slice 96,.slice 99,.slice 9] fun a1 a2 a3 a4 a5 a6 a7 a8 a9 b0 b1 b2 =>
 T.ret (.agg #[.slice a1 a2 a3,.slice a4 a5 a6,.slice a7 a8 a9,.slice b0 b1 b2]))),
 (T.aS Tryz.prog (Instr.buildSlice 25 0 #[]) false [(false,[.slice 0])] fun B C D =>
 T.aB [((m.add 3),[.slice u v w]),((m.add 1),[.slice r s t]),(m,[.slice o p q])] <|
 T.call Tryz.prog 54 [.slice r s t] false [(false,[.slice 96])] fun E F G =>
 T.aB [((m.add 3),[.slice u v w]),(m,[.slice o p q])] <|
 T.aS Tryz.prog (Builtin.append_ #[25,25] 25 #[.slice B C D,.slice u v w]) false [(false,[.slice 0])] fun H I J =>
 T.aB [((m.add 1),[.slice r s t]),(m,[.slice o p q])] <|
 T.ao A [.slice x y z,.slice E F G,.slice none 0 0,.slice H I J] <|
 T.loop [(false,[.int .i64])] [vI 0] fun K =>
 T.ae (m.add 2) [.slice 99] fun L M N =>
 cond (decide (K<(M:Int)))
 (T.ae (A.add 2) [.slice 99] fun O P Q =>
 T.ae (m.add 2) [.slice 99] fun R S U =>
 T.need (((0:Int)≤K)∧(K<(S:Int))) <|
 T.aw R fun V =>
 T.ae (V.add ((Int.toNat K)*3)) [.string] fun W =>
 T.ae (m.add 2) [.slice 99] fun X Y Z =>
 T.need (((0:Int)≤K)∧(K<(Y:Int))) <|
 T.aw X fun a0 =>
 T.ae ((a0.add ((Int.toNat K)*3)).add 1) [.slice 109,.int .u32] fun a1 a2 a3 a4 =>
 T.call Tryz.prog 55 [.agg #[.slice a1 a2 a3,.int .u32 a4]] false [(true,[.slice 109,.int .u32])] fun a5 a6 a7 a8 =>
 T.aB [((m.add 2),[.slice X Y Z]),((V.add ((Int.toNat K)*3)),[.string W]),((m.add 2),[.slice R S U]),((A.add 2),[.slice O P Q])] <|
 T.aS Tryz.prog (Instr.buildSlice 24 1 #[(0,.agg #[.string W,.slice a5 a6 a7,.int .u32 a8])]) false [(false,[.slice 0])] fun a9 b0 b1 =>
 T.aB [(((a0.add ((Int.toNat K)*3)).add 1),[.slice a1 a2 a3,.int .u32 a4]),((m.add 2),[.slice X Y Z]),((V.add ((Int.toNat K)*3)),[.string W]),((m.add 2),[.slice R S U]),((A.add 2),[.slice O P Q])] <|
 T.aS Tryz.prog (Builtin.append_ #[24,24] 24 #[.slice O P Q,.slice a9 b0 b1]) false [(false,[.slice 0])] fun b2 b3 b4 =>
 T.aB [(((a0.add ((Int.toNat K)*3)).add 1),[.slice a1 a2 a3,.int .u32 a4]),((m.add 2),[.slice X Y Z]),((V.add ((Int.toNat K)*3)),[.string W]),((m.add 2),[.slice R S U])] <|
 T.ao (A.add 2) [.slice b2 b3 b4] <|
 T.again 0 [vI (IntKind.wrap .i64 (K+(1:Int)))])
 (T.ae A [.slice 96,.slice 96,.slice 99,.slice 9] fun O P Q R S U V W X Y Z a0 =>
 T.ao n [.slice O P Q,.slice R S U,.slice V W X,.slice Y Z a0] <|
 T.ae n [.slice 96,.slice 96,.slice 99,.slice 9] fun a1 a2 a3 a4 a5 a6 a7 a8 a9 b0 b1 b2 =>
 T.ret (.agg #[.slice a1 a2 a3,.slice a4 a5 a6,.slice a7 a8 a9,.slice b0 b1 b2])))])]),
 (T.aS Tryz.prog (Instr.buildSlice 25 0 #[]) false [(false,[.slice 0])] fun x y z =>
 T.aB [((m.add 3),[.slice u v w]),((m.add 1),[.slice r s t]),(m,[.slice o p q])] <|
 T.all [ (T.call Tryz.prog 54 [.slice o p q] false [(false,[.slice 96])] fun A B C =>
 T.aB [((m.add 3),[.slice u v w]),((m.add 1),[.slice r s t])] <|
 T.all [ (T.call Tryz.prog 54 [.slice r s t] false [(false,[.slice 96])] fun D E F =>
 T.aB [((m.add 3),[.slice u v w]),(m,[.slice o p q])] <|
 T.all [ (T.aS Tryz.prog (Builtin.append_ #[25,25] 25 #[.slice x y z,.slice u v w]) false [(false,[.slice 0])] fun G H I =>
 T.aB [((m.add 1),[.slice r s t]),(m,[.slice o p q])] <|
 T.new [.slice none 0 0,.slice none 0 0,.slice none 0 0,.slice none 0 0] 27 fun J =>
 T.aB [((m.add 3),[.slice u v w]),((m.add 1),[.slice r s t]),(m,[.slice o p q])] <|
 T.ao J [.slice A B C,.slice D E F,.slice none 0 0,.slice G H I] <|
 T.loop [(false,[.int .i64])] [vI 0] fun K =>
 T.ae (m.add 2) [.slice 99] fun L M N =>
 cond (decide (K<(M:Int)))
 (T.ae (J.add 2) [.slice 99] fun O P Q =>
 T.ae (m.add 2) [.slice 99] fun R S U =>
 T.need (((0:Int)≤K)∧(K<(S:Int))) <|
 T.aw R fun V =>
 T.ae (V.add ((Int.toNat K)*3)) [.string] fun W =>
 T.ae (m.add 2) [.slice 99] fun X Y Z =>
 T.need (((0:Int)≤K)∧(K<(Y:Int))) <|
 T.aw X fun a0 =>
 T.ae ((a0.add ((Int.toNat K)*3)).add 1) [.slice 109,.int .u32] fun a1 a2 a3 a4 =>
 T.call Tryz.prog 55 [.agg #[.slice a1 a2 a3,.int .u32 a4]] false [(true,[.slice 109,.int .u32])] fun a5 a6 a7 a8 =>
 T.aB [((m.add 2),[.slice X Y Z]),((V.add ((Int.toNat K)*3)),[.string W]),((m.add 2),[.slice R S U]),((J.add 2),[.slice O P Q])] <|
 T.aS Tryz.prog (Instr.buildSlice 24 1 #[(0,.agg #[.string W,.slice a5 a6 a7,.int .u32 a8])]) false [(false,[.slice 0])] fun a9 b0 b1 =>
 T.aB [(((a0.add ((Int.toNat K)*3)).add 1),[.slice a1 a2 a3,.int .u32 a4]),((m.add 2),[.slice X Y Z]),((V.add ((Int.toNat K)*3)),[.string W]),((m.add 2),[.slice R S U]),((J.add 2),[.slice O P Q])] <|
 T.aS Tryz.prog (Builtin.append_ #[24,24] 24 #[.slice O P Q,.slice a9 b0 b1]) false [(false,[.slice 0])] fun b2 b3 b4 =>
 T.aB [(((a0.add ((Int.toNat K)*3)).add 1),[.slice a1 a2 a3,.int .u32 a4]),((m.add 2),[.slice X Y Z]),((V.add ((Int.toNat K)*3)),[.string W]),((m.add 2),[.slice R S U])] <|
 T.ao (J.add 2) [.slice b2 b3 b4] <|
 T.again 0 [vI (IntKind.wrap .i64 (K+(1:Int)))])
 (T.ae J [.slice 96,.slice 96,.slice 99,.slice 9] fun O P Q R S U V W X Y Z a0 =>
 T.ao n [.slice O P Q,.slice R S U,.slice V W X,.slice Y Z a0] <|
 T.ae n [.slice 96,.slice 96,.slice 99,.slice 9] fun a1 a2 a3 a4 a5 a6 a7 a8 a9 b0 b1 b2 =>
 T.ret (.agg #[.slice a1 a2 a3,.slice a4 a5 a6,.slice a7 a8 a9,.slice b0 b1 b2]))),
 (T.new [.slice none 0 0,.slice none 0 0,.slice none 0 0,.slice none 0 0] 27 fun G =>
 T.aB [((m.add 3),[.slice u v w]),((m.add 1),[.slice r s t]),(m,[.slice o p q])] <|
 T.aS Tryz.prog (Builtin.append_ #[25,25] 25 #[.slice x y z,.slice u v w]) false [(false,[.slice 0])] fun H I J =>
 T.aB [((m.add 1),[.slice r s t]),(m,[.slice o p q])] <|
 T.ao G [.slice A B C,.slice D E F,.slice none 0 0,.slice H I J] <|
 T.loop [(false,[.int .i64])] [vI 0] fun K =>
 T.ae (m.add 2) [.slice 99] fun L M N =>
 cond (decide (K<(M:Int)))
 (T.ae (G.add 2) [.slice 99] fun O P Q =>
 T.ae (m.add 2) [.slice 99] fun R S U =>
 T.need (((0:Int)≤K)∧(K<(S:Int))) <|
 T.aw R fun V =>
 T.ae (V.add ((Int.toNat K)*3)) [.string] fun W =>
 T.ae (m.add 2) [.slice 99] fun X Y Z =>
 T.need (((0:Int)≤K)∧(K<(Y:Int))) <|
 T.aw X fun a0 =>
 T.ae ((a0.add ((Int.toNat K)*3)).add 1) [.slice 109,.int .u32] fun a1 a2 a3 a4 =>
 T.call Tryz.prog 55 [.agg #[.slice a1 a2 a3,.int .u32 a4]] false [(true,[.slice 109,.int .u32])] fun a5 a6 a7 a8 =>
 T.aB [((m.add 2),[.slice X Y Z]),((V.add ((Int.toNat K)*3)),[.string W]),((m.add 2),[.slice R S U]),((G.add 2),[.slice O P Q])] <|
 T.aS Tryz.prog (Instr.buildSlice 24 1 #[(0,.agg #[.string W,.slice a5 a6 a7,.int .u32 a8])]) false [(false,[.slice 0])] fun a9 b0 b1 =>
 T.aB [(((a0.add ((Int.toNat K)*3)).add 1),[.slice a1 a2 a3,.int .u32 a4]),((m.add 2),[.slice X Y Z]),((V.add ((Int.toNat K)*3)),[.string W]),((m.add 2),[.slice R S U]),((G.add 2),[.slice O P Q])] <|
 T.aS Tryz.prog (Builtin.append_ #[24,24] 24 #[.slice O P Q,.slice a9 b0 b1]) false [(false,[.slice 0])] fun b2 b3 b4 =>
 T.aB [(((a0.add ((Int.toNat K)*3)).add 1),[.slice a1 a2 a3,.int .u32 a4]),((m.add 2),[.slice X Y Z]),((V.add ((Int.toNat K)*3)),[.string W]),((m.add 2),[.slice R S U])] <|
 T.ao (G.add 2) [.slice b2 b3 b4] <|
 T.again 0 [vI (IntKind.wrap .i64 (K+(1:Int)))])
 (T.ae G [.slice 96,.slice 96,.slice 99,.slice 9] fun O P Q R S U V W X Y Z a0 =>
 T.ao n [.slice O P Q,.slice R S U,.slice V W X,.slice Y Z a0] <|
 T.ae n [.slice 96,.slice 96,.slice 99,.slice 9] fun a1 a2 a3 a4 a5 a6 a7 a8 a9 b0 b1 b2 =>
 T.ret (.agg #[.slice a1 a2 a3,.slice a4 a5 a6,.slice a7 a8 a9,.slice b0 b1 b2])))]),
 (T.new [.slice none 0 0,.slice none 0 0,.slice none 0 0,.slice none 0 0] 27 fun D =>
 T.aB [((m.add 3),[.slice u v w]),((m.add 1),[.slice r s t]),(m,[.slice o p q])] <|
 T.call Tryz.prog 54 [.slice r s t] false [(false,[.slice 96])] fun E F G =>
 T.aB [((m.add 3),[.slice u v w]),(m,[.slice o p q])] <|
 T.aS Tryz.prog (Builtin.append_ #[25,25] 25 #[.slice x y z,.slice u v w]) false [(false,[.slice 0])] fun H I J =>
 T.aB [((m.add 1),[.slice r s t]),(m,[.slice o p q])] <|
 T.ao D [.slice A B C,.slice E F G,.slice none 0 0,.slice H I J] <|
 T.loop [(false,[.int .i64])] [vI 0] fun K =>
 T.ae (m.add 2) [.slice 99] fun L M N =>
 cond (decide (K<(M:Int)))
 (T.ae (D.add 2) [.slice 99] fun O P Q =>
 T.ae (m.add 2) [.slice 99] fun R S U =>
 T.need (((0:Int)≤K)∧(K<(S:Int))) <|
 T.aw R fun V =>
 T.ae (V.add ((Int.toNat K)*3)) [.string] fun W =>
 T.ae (m.add 2) [.slice 99] fun X Y Z =>
 T.need (((0:Int)≤K)∧(K<(Y:Int))) <|
 T.aw X fun a0 =>
 T.ae ((a0.add ((Int.toNat K)*3)).add 1) [.slice 109,.int .u32] fun a1 a2 a3 a4 =>
 T.call Tryz.prog 55 [.agg #[.slice a1 a2 a3,.int .u32 a4]] false [(true,[.slice 109,.int .u32])] fun a5 a6 a7 a8 =>
 T.aB [((m.add 2),[.slice X Y Z]),((V.add ((Int.toNat K)*3)),[.string W]),((m.add 2),[.slice R S U]),((D.add 2),[.slice O P Q])] <|
 T.aS Tryz.prog (Instr.buildSlice 24 1 #[(0,.agg #[.string W,.slice a5 a6 a7,.int .u32 a8])]) false [(false,[.slice 0])] fun a9 b0 b1 =>
 T.aB [(((a0.add ((Int.toNat K)*3)).add 1),[.slice a1 a2 a3,.int .u32 a4]),((m.add 2),[.slice X Y Z]),((V.add ((Int.toNat K)*3)),[.string W]),((m.add 2),[.slice R S U]),((D.add 2),[.slice O P Q])] <|
 T.aS Tryz.prog (Builtin.append_ #[24,24] 24 #[.slice O P Q,.slice a9 b0 b1]) false [(false,[.slice 0])] fun b2 b3 b4 =>
 T.aB [(((a0.add ((Int.toNat K)*3)).add 1),[.slice a1 a2 a3,.int .u32 a4]),((m.add 2),[.slice X Y Z]),((V.add ((Int.toNat K)*3)),[.string W]),((m.add 2),[.slice R S U])] <|
 T.ao (D.add 2) [.slice b2 b3 b4] <|
 T.again 0 [vI (IntKind.wrap .i64 (K+(1:Int)))])
 (T.ae D [.slice 96,.slice 96,.slice 99,.slice 9] fun O P Q R S U V W X Y Z a0 =>
 T.ao n [.slice O P Q,.slice R S U,.slice V W X,.slice Y Z a0] <|
 T.ae n [.slice 96,.slice 96,.slice 99,.slice 9] fun a1 a2 a3 a4 a5 a6 a7 a8 a9 b0 b1 b2 =>
 T.ret (.agg #[.slice a1 a2 a3,.slice a4 a5 a6,.slice a7 a8 a9,.slice b0 b1 b2])))]),
 (T.new [.slice none 0 0,.slice none 0 0,.slice none 0 0,.slice none 0 0] 27 fun A =>
 T.aB [((m.add 3),[.slice u v w]),((m.add 1),[.slice r s t]),(m,[.slice o p q])] <|
 T.call Tryz.prog 54 [.slice o p q] false [(false,[.slice 96])] fun B C D =>
 T.aB [((m.add 3),[.slice u v w]),((m.add 1),[.slice r s t])] <|
 T.call Tryz.prog 54 [.slice r s t] false [(false,[.slice 96])] fun E F G =>
 T.aB [((m.add 3),[.slice u v w]),(m,[.slice o p q])] <|
 T.aS Tryz.prog (Builtin.append_ #[25,25] 25 #[.slice x y z,.slice u v w]) false [(false,[.slice 0])] fun H I J =>
 T.aB [((m.add 1),[.slice r s t]),(m,[.slice o p q])] <|
 T.ao A [.slice B C D,.slice E F G,.slice none 0 0,.slice H I J] <|
 T.loop [(false,[.int .i64])] [vI 0] fun K =>
 T.ae (m.add 2) [.slice 99] fun L M N =>
 cond (decide (K<(M:Int)))
 (T.ae (A.add 2) [.slice 99] fun O P Q =>
 T.ae (m.add 2) [.slice 99] fun R S U =>
 T.need (((0:Int)≤K)∧(K<(S:Int))) <|
 T.aw R fun V =>
 T.ae (V.add ((Int.toNat K)*3)) [.string] fun W =>
 T.ae (m.add 2) [.slice 99] fun X Y Z =>
 T.need (((0:Int)≤K)∧(K<(Y:Int))) <|
 T.aw X fun a0 =>
 T.ae ((a0.add ((Int.toNat K)*3)).add 1) [.slice 109,.int .u32] fun a1 a2 a3 a4 =>
 T.call Tryz.prog 55 [.agg #[.slice a1 a2 a3,.int .u32 a4]] false [(true,[.slice 109,.int .u32])] fun a5 a6 a7 a8 =>
 T.aB [((m.add 2),[.slice X Y Z]),((V.add ((Int.toNat K)*3)),[.string W]),((m.add 2),[.slice R S U]),((A.add 2),[.slice O P Q])] <|
 T.aS Tryz.prog (Instr.buildSlice 24 1 #[(0,.agg #[.string W,.slice a5 a6 a7,.int .u32 a8])]) false [(false,[.slice 0])] fun a9 b0 b1 =>
 T.aB [(((a0.add ((Int.toNat K)*3)).add 1),[.slice a1 a2 a3,.int .u32 a4]),((m.add 2),[.slice X Y Z]),((V.add ((Int.toNat K)*3)),[.string W]),((m.add 2),[.slice R S U]),((A.add 2),[.slice O P Q])] <|
 T.aS Tryz.prog (Builtin.append_ #[24,24] 24 #[.slice O P Q,.slice a9 b0 b1]) false [(false,[.slice 0])] fun b2 b3 b4 =>
 T.aB [(((a0.add ((Int.toNat K)*3)).add 1),[.slice a1 a2 a3,.int .u32 a4]),((m.add 2),[.slice X Y Z]),((V.add ((Int.toNat K)*3)),[.string W]),((m.add 2),[.slice R S U])] <|
 T.ao (A.add 2) [.slice b2 b3 b4] <|
 T.again 0 [vI (IntKind.wrap .i64 (K+(1:Int)))])
 (T.ae A [.slice 96,.slice 96,.slice 99,.slice 9] fun O P Q R S U V W X Y Z a0 =>
 T.ao n [.slice O P Q,.slice R S U,.slice V W X,.slice Y Z a0] <|
 T.ae n [.slice 96,.slice 96,.slice 99,.slice 9] fun a1 a2 a3 a4 a5 a6 a7 a8 a9 b0 b1 b2 =>
 T.ret (.agg #[.slice a1 a2 a3,.slice a4 a5 a6,.slice a7 a8 a9,.slice b0 b1 b2])))]),
 (T.new [.slice none 0 0,.slice none 0 0,.slice none 0 0,.slice none 0 0] 27 fun x =>
 T.aB [((m.add 3),[.slice u v w]),((m.add 1),[.slice r s t]),(m,[.slice o p q])] <|
 T.all [ (T.call Tryz.prog 54 [.slice o p q] false [(false,[.slice 96])] fun y z A =>
 T.aB [((m.add 3),[.slice u v w]),((m.add 1),[.slice r s t])] <|
 T.all [ (T.call Tryz.prog 54 [.slice r s t] false [(false,[.slice 96])] fun B C D =>
 T.aB [((m.add 3),[.slice u v w]),(m,[.slice o p q])] <|
 T.aS Tryz.prog (Instr.buildSlice 25 0 #[]) false [(false,[.slice 0])] fun E F G =>
 T.aB [((m.add 3),[.slice u v w]),((m.add 1),[.slice r s t]),(m,[.slice o p q])] <|
 T.aS Tryz.prog (Builtin.append_ #[25,25] 25 #[.slice E F G,.slice u v w]) false [(false,[.slice 0])] fun H I J =>
 T.aB [((m.add 1),[.slice r s t]),(m,[.slice o p q])] <|
 T.ao x [.slice y z A,.slice B C D,.slice none 0 0,.slice H I J] <|
 T.loop [(false,[.int .i64])] [vI 0] fun K =>
 T.ae (m.add 2) [.slice 99] fun L M N =>
 cond (decide (K<(M:Int)))
 (T.ae (x.add 2) [.slice 99] fun O P Q =>
 T.ae (m.add 2) [.slice 99] fun R S U =>
 T.need (((0:Int)≤K)∧(K<(S:Int))) <|
 T.aw R fun V =>
 T.ae (V.add ((Int.toNat K)*3)) [.string] fun W =>
 T.ae (m.add 2) [.slice 99] fun X Y Z =>
 T.need (((0:Int)≤K)∧(K<(Y:Int))) <|
 T.aw X fun a0 =>
 T.ae ((a0.add ((Int.toNat K)*3)).add 1) [.slice 109,.int .u32] fun a1 a2 a3 a4 =>
 T.call Tryz.prog 55 [.agg #[.slice a1 a2 a3,.int .u32 a4]] false [(true,[.slice 109,.int .u32])] fun a5 a6 a7 a8 =>
 T.aB [((m.add 2),[.slice X Y Z]),((V.add ((Int.toNat K)*3)),[.string W]),((m.add 2),[.slice R S U]),((x.add 2),[.slice O P Q])] <|
 T.aS Tryz.prog (Instr.buildSlice 24 1 #[(0,.agg #[.string W,.slice a5 a6 a7,.int .u32 a8])]) false [(false,[.slice 0])] fun a9 b0 b1 =>
 T.aB [(((a0.add ((Int.toNat K)*3)).add 1),[.slice a1 a2 a3,.int .u32 a4]),((m.add 2),[.slice X Y Z]),((V.add ((Int.toNat K)*3)),[.string W]),((m.add 2),[.slice R S U]),((x.add 2),[.slice O P Q])] <|
 T.aS Tryz.prog (Builtin.append_ #[24,24] 24 #[.slice O P Q,.slice a9 b0 b1]) false [(false,[.slice 0])] fun b2 b3 b4 =>
 T.aB [(((a0.add ((Int.toNat K)*3)).add 1),[.slice a1 a2 a3,.int .u32 a4]),((m.add 2),[.slice X Y Z]),((V.add ((Int.toNat K)*3)),[.string W]),((m.add 2),[.slice R S U])] <|
 T.ao (x.add 2) [.slice b2 b3 b4] <|
 T.again 0 [vI (IntKind.wrap .i64 (K+(1:Int)))])
 (T.ae x [.slice 96,.slice 96,.slice 99,.slice 9] fun O P Q R S U V W X Y Z a0 =>
 T.ao n [.slice O P Q,.slice R S U,.slice V W X,.slice Y Z a0] <|
 T.ae n [.slice 96,.slice 96,.slice 99,.slice 9] fun a1 a2 a3 a4 a5 a6 a7 a8 a9 b0 b1 b2 =>
 T.ret (.agg #[.slice a1 a2 a3,.slice a4 a5 a6,.slice a7 a8 a9,.slice b0 b1 b2]))),
 (T.aS Tryz.prog (Instr.buildSlice 25 0 #[]) false [(false,[.slice 0])] fun B C D =>
 T.aB [((m.add 3),[.slice u v w]),((m.add 1),[.slice r s t]),(m,[.slice o p q])] <|
 T.call Tryz.prog 54 [.slice r s t] false [(false,[.slice 96])] fun E F G =>
 T.aB [((m.add 3),[.slice u v w]),(m,[.slice o p q])] <|
 T.aS Tryz.prog (Builtin.append_ #[25,25] 25 #[.slice B C D,.slice u v w]) false [(false,[.slice 0])] fun H I J =>
 T.aB [((m.add 1),[.slice r s t]),(m,[.slice o p q])] <|
 T.ao x [.slice y z A,.slice E F G,.slice none 0 0,.slice H I J] <|
 T.loop [(false,[.int .i64])] [vI 0] fun K =>
 T.ae (m.add 2) [.slice 99] fun L M N =>
 cond (decide (K<(M:Int)))
 (T.ae (x.add 2) [.slice 99] fun O P Q =>
 T.ae (m.add 2) [.slice 99] fun R S U =>
 T.need (((0:Int)≤K)∧(K<(S:Int))) <|
 T.aw R fun V =>
 T.ae (V.add ((Int.toNat K)*3)) [.string] fun W =>
 T.ae (m.add 2) [.slice 99] fun X Y Z =>
 T.need (((0:Int)≤K)∧(K<(Y:Int))) <|
 T.aw X fun a0 =>
 T.ae ((a0.add ((Int.toNat K)*3)).add 1) [.slice 109,.int .u32] fun a1 a2 a3 a4 =>
 T.call Tryz.prog 55 [.agg #[.slice a1 a2 a3,.int .u32 a4]] false [(true,[.slice 109,.int .u32])] fun a5 a6 a7 a8 =>
 T.aB [((m.add 2),[.slice X Y Z]),((V.add ((Int.toNat K)*3)),[.string W]),((m.add 2),[.slice R S U]),((x.add 2),[.slice O P Q])] <|
 T.aS Tryz.prog (Instr.buildSlice 24 1 #[(0,.agg #[.string W,.slice a5 a6 a7,.int .u32 a8])]) false [(false,[.slice 0])] fun a9 b0 b1 =>
 T.aB [(((a0.add ((Int.toNat K)*3)).add 1),[.slice a1 a2 a3,.int .u32 a4]),((m.add 2),[.slice X Y Z]),((V.add ((Int.toNat K)*3)),[.string W]),((m.add 2),[.slice R S U]),((x.add 2),[.slice O P Q])] <|
 T.aS Tryz.prog (Builtin.append_ #[24,24] 24 #[.slice O P Q,.slice a9 b0 b1]) false [(false,[.slice 0])] fun b2 b3 b4 =>
 T.aB [(((a0.add ((Int.toNat K)*3)).add 1),[.slice a1 a2 a3,.int .u32 a4]),((m.add 2),[.slice X Y Z]),((V.add ((Int.toNat K)*3)),[.string W]),((m.add 2),[.slice R S U])] <|
 T.ao (x.add 2) [.slice b2 b3 b4] <|
 T.again 0 [vI (IntKind.wrap .i64 (K+(1:Int)))])
 (T.ae x [.slice 96,.slice 96,.slice 99,.slice 9] fun O P Q R S U V W X Y Z a0 =>
 T.ao n [.slice O P Q,.slice R S U,.slice V W X,.slice Y Z a0] <|
 T.ae n [.slice 96,.slice 96,.slice 99,.slice 9] fun a1 a2 a3 a4 a5 a6 a7 a8 a9 b0 b1 b2 =>
 T.ret (.agg #[.slice a1 a2 a3,.slice a4 a5 a6,.slice a7 a8 a9,.slice b0 b1 b2])))]),
 (T.aS Tryz.prog (Instr.buildSlice 25 0 #[]) false [(false,[.slice 0])] fun y z A =>
 T.aB [((m.add 3),[.slice u v w]),((m.add 1),[.slice r s t]),(m,[.slice o p q])] <|
 T.call Tryz.prog 54 [.slice o p q] false [(false,[.slice 96])] fun B C D =>
 T.aB [((m.add 3),[.slice u v w]),((m.add 1),[.slice r s t])] <|
 T.call Tryz.prog 54 [.slice r s t] false [(false,[.slice 96])] fun E F G =>
 T.aB [((m.add 3),[.slice u v w]),(m,[.slice o p q])] <|
 T.aS Tryz.prog (Builtin.append_ #[25,25] 25 #[.slice y z A,.slice u v w]) false [(false,[.slice 0])] fun H I J =>
 T.aB [((m.add 1),[.slice r s t]),(m,[.slice o p q])] <|
 T.ao x [.slice B C D,.slice E F G,.slice none 0 0,.slice H I J] <|
 T.loop [(false,[.int .i64])] [vI 0] fun K =>
 T.ae (m.add 2) [.slice 99] fun L M N =>
 cond (decide (K<(M:Int)))
 (T.ae (x.add 2) [.slice 99] fun O P Q =>
 T.ae (m.add 2) [.slice 99] fun R S U =>
 T.need (((0:Int)≤K)∧(K<(S:Int))) <|
 T.aw R fun V =>
 T.ae (V.add ((Int.toNat K)*3)) [.string] fun W =>
 T.ae (m.add 2) [.slice 99] fun X Y Z =>
 T.need (((0:Int)≤K)∧(K<(Y:Int))) <|
 T.aw X fun a0 =>
 T.ae ((a0.add ((Int.toNat K)*3)).add 1) [.slice 109,.int .u32] fun a1 a2 a3 a4 =>
 T.call Tryz.prog 55 [.agg #[.slice a1 a2 a3,.int .u32 a4]] false [(true,[.slice 109,.int .u32])] fun a5 a6 a7 a8 =>
 T.aB [((m.add 2),[.slice X Y Z]),((V.add ((Int.toNat K)*3)),[.string W]),((m.add 2),[.slice R S U]),((x.add 2),[.slice O P Q])] <|
 T.aS Tryz.prog (Instr.buildSlice 24 1 #[(0,.agg #[.string W,.slice a5 a6 a7,.int .u32 a8])]) false [(false,[.slice 0])] fun a9 b0 b1 =>
 T.aB [(((a0.add ((Int.toNat K)*3)).add 1),[.slice a1 a2 a3,.int .u32 a4]),((m.add 2),[.slice X Y Z]),((V.add ((Int.toNat K)*3)),[.string W]),((m.add 2),[.slice R S U]),((x.add 2),[.slice O P Q])] <|
 T.aS Tryz.prog (Builtin.append_ #[24,24] 24 #[.slice O P Q,.slice a9 b0 b1]) false [(false,[.slice 0])] fun b2 b3 b4 =>
 T.aB [(((a0.add ((Int.toNat K)*3)).add 1),[.slice a1 a2 a3,.int .u32 a4]),((m.add 2),[.slice X Y Z]),((V.add ((Int.toNat K)*3)),[.string W]),((m.add 2),[.slice R S U])] <|
 T.ao (x.add 2) [.slice b2 b3 b4] <|
 T.again 0 [vI (IntKind.wrap .i64 (K+(1:Int)))])
 (T.ae x [.slice 96,.slice 96,.slice 99,.slice 9] fun O P Q R S U V W X Y Z a0 =>
 T.ao n [.slice O P Q,.slice R S U,.slice V W X,.slice Y Z a0] <|
 T.ae n [.slice 96,.slice 96,.slice 99,.slice 9] fun a1 a2 a3 a4 a5 a6 a7 a8 a9 b0 b1 b2 =>
 T.ret (.agg #[.slice a1 a2 a3,.slice a4 a5 a6,.slice a7 a8 a9,.slice b0 b1 b2])))])]
theorem jF (a:Option Addr) (b c:Nat) (d:Option Addr) (e f:Nat) (g:Option Addr) (h i:Nat) (j:Option Addr) (k l:Nat):aZ Tryz.prog [] Tryz.f25 [.agg #[.slice a b c,.slice d e f,.slice g h i,.slice j k l]]=fK a b c d e f g h i j k l:=by kernel_rfl
def iN (a:Int):T :=
 cond (a==(0:Int))
 (T.ret (.string ⟨#[110,111,32,101,114,114,111,114]⟩))
 (cond (a==(1:Int))
 (T.ret (.string ⟨#[97,110,32,97,114,103,117,109,101,110,116,32,116,104,97,116,32,109,97,121,32,110,111,116,32,98,101]⟩))
 (cond (a==(20:Int))
 (T.ret (.string ⟨#[97,32,108,105,110,101,32,116,104,97,116,32,99,97,110,39,116,32,98,101,32,114,101,97,100]⟩))
 (cond (a==(23:Int))
 (T.ret (.string ⟨#[97,32,110,97,109,101,32,116,104,97,116,32,110,111,98,111,100,121,32,103,105,118,101,115]⟩))
 (cond (decide (a<(0:Int)))
 (T.loop [(false,[.int .i64]),(false,[.slice 0])] [vI 0,.slice none 0 0] fun b c d e =>
 cond (decide (b>(0:Int)))
 (T.need ((10:Int)≠(0:Int)) <|
 T.aS Tryz.prog (Instr.buildSlice 42 1 #[(0,.int .u8 (IntKind.wrap .u8 (IntKind.wrap .i64 ((48:Int)+(Int.tmod b (10:Int))))))]) false [(false,[.slice 0])] fun f g h =>
 T.aS Tryz.prog (Builtin.append_ #[42,42] 42 #[.slice f g h,.slice c d e]) false [(false,[.slice 0])] fun i j k =>
 T.need ((10:Int)≠(0:Int)) <|
 T.again 0 [vI (IntKind.wrap .i64 (Int.tdiv b (10:Int))),.slice i j k])
 (cond ((d:Int)==(0:Int))
 (T.need ((10:Int)≠(0:Int)) <|
 T.aS Tryz.prog (Instr.buildSlice 42 1 #[(0,.int .u8 (IntKind.wrap .u8 (IntKind.wrap .i64 ((48:Int)+(Int.tmod b (10:Int))))))]) false [(false,[.slice 0])] fun f g h =>
 T.aS Tryz.prog (Builtin.append_ #[42,42] 42 #[.slice f g h,.slice c d e]) false [(false,[.slice 0])] fun i j k =>
 T.need ((10:Int)≠(0:Int)) <|
 T.again 0 [vI (IntKind.wrap .i64 (Int.tdiv b (10:Int))),.slice i j k])
 (T.aS Tryz.prog (convert 42 9 (.slice c d e)) false [(false,[.string])] fun f =>
 T.need ((((8+f.size):Nat):Int)≤(9223372036854775807:Int)) <|
 T.ret (.string (⟨#[114,101,102,117,115,97,108,32]⟩++f)))))
 (T.loop [(false,[.int .i64]),(false,[.slice 0])] [vI a,.slice none 0 0] fun b c d e =>
 cond (decide (b>(0:Int)))
 (T.need ((10:Int)≠(0:Int)) <|
 T.aS Tryz.prog (Instr.buildSlice 42 1 #[(0,.int .u8 (IntKind.wrap .u8 (IntKind.wrap .i64 ((48:Int)+(Int.tmod b (10:Int))))))]) false [(false,[.slice 0])] fun f g h =>
 T.aS Tryz.prog (Builtin.append_ #[42,42] 42 #[.slice f g h,.slice c d e]) false [(false,[.slice 0])] fun i j k =>
 T.need ((10:Int)≠(0:Int)) <|
 T.again 0 [vI (IntKind.wrap .i64 (Int.tdiv b (10:Int))),.slice i j k])
 (cond ((d:Int)==(0:Int))
 (T.need ((10:Int)≠(0:Int)) <|
 T.aS Tryz.prog (Instr.buildSlice 42 1 #[(0,.int .u8 (IntKind.wrap .u8 (IntKind.wrap .i64 ((48:Int)+(Int.tmod b (10:Int))))))]) false [(false,[.slice 0])] fun f g h =>
 T.aS Tryz.prog (Builtin.append_ #[42,42] 42 #[.slice f g h,.slice c d e]) false [(false,[.slice 0])] fun i j k =>
 T.need ((10:Int)≠(0:Int)) <|
 T.again 0 [vI (IntKind.wrap .i64 (Int.tdiv b (10:Int))),.slice i j k])
 (T.aS Tryz.prog (convert 42 9 (.slice c d e)) false [(false,[.string])] fun f =>
 T.need ((((8+f.size):Nat):Int)≤(9223372036854775807:Int)) <|
 T.ret (.string (⟨#[114,101,102,117,115,97,108,32]⟩++f)))))))))
theorem mu (a:Int):aZ Tryz.prog [] Tryz.f72 [vI a]=iN a:=by kernel_rfl
def gQ (a:Option Addr):T :=
 T.aw a fun b =>
 T.ae b [.int .i64] fun c =>
 T.aw a fun d =>
 T.ae (d.add 1) [.int .i64] fun e =>
 T.call Tryz.prog 71 [vI c] false [(false,[.string])] fun f =>
 T.aB [((d.add 1),[vI e])] <|
 T.need ((((5+f.size):Nat):Int)≤(9223372036854775807:Int)) <|
 T.need (((((ByteArray.size (⟨#[108,105,110,101,32]⟩++f))+2):Nat):Int)≤(9223372036854775807:Int)) <|
 T.call Tryz.prog 72 [vI e] false [(false,[.string])] fun g =>
 T.aB [(b,[vI c])] <|
 T.need (((((ByteArray.size ((⟨#[108,105,110,101,32]⟩++f)++⟨#[58,32]⟩))+g.size):Nat):Int)≤(9223372036854775807:Int)) <|
 T.ret (.string (((⟨#[108,105,110,101,32]⟩++f)++⟨#[58,32]⟩)++g))
theorem kH (a:Option Addr):aZ Tryz.prog [] Tryz.f37 [.pointer a]=gQ a:=by kernel_rfl
def fX (a:Option Addr):T :=
 T.aw a fun b =>
 T.ae (b.add 1) [.int .i64] fun c =>
 T.ret (.iface 44 (vI c))
theorem km (a:Option Addr):aZ Tryz.prog [] Tryz.f39 [.pointer a]=fX a:=by kernel_rfl
def gB (a:Value) (b:Value):T :=
 T.aS Tryz.prog (Sx.bU (BinOp.eql) 29 (Operand.tmp 5) (Operand.const Value.nilIface) a .nilIface) false [(false,[.bool])] fun c =>
 cond c
 (T.aS Tryz.prog (Sx.bU (BinOp.eql) 29 (Operand.tmp 11) (Operand.const Value.nilIface) a .nilIface) false [(false,[.bool])] fun d =>
 cond d
 (T.aS Tryz.prog (Sx.bU (BinOp.eql) 29 (Operand.tmp 14) (Operand.const Value.nilIface) b .nilIface) false [(false,[.bool])] fun e =>
 T.ret (.bool e))
 (T.ret (.bool false)))
 (T.aS Tryz.prog (Sx.bU (BinOp.eql) 29 (Operand.tmp 8) (Operand.const Value.nilIface) b .nilIface) false [(false,[.bool])] fun d =>
 cond d
 (T.aS Tryz.prog (Sx.bU (BinOp.eql) 29 (Operand.tmp 11) (Operand.const Value.nilIface) a .nilIface) false [(false,[.bool])] fun e =>
 cond e
 (T.aS Tryz.prog (Sx.bU (BinOp.eql) 29 (Operand.tmp 14) (Operand.const Value.nilIface) b .nilIface) false [(false,[.bool])] fun f =>
 T.ret (.bool f))
 (T.ret (.bool false)))
 (T.aS Tryz.prog (Sx.bU (BinOp.eql) 29 (Operand.tmp 17) (Operand.tmp 18) a b) false [(false,[.bool])] fun e =>
 T.ret (.bool e)))
theorem kf (a:Value) (b:Value):aZ Tryz.prog [] Tryz.f38 [a,b]=gB a b:=by kernel_rfl
end Go.Sx
