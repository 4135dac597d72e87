/- Trees of functions, each checked by the kernel against the code. No condition. -/
import Derived.Test.YtfkjiiapldkoeaaGreatDoorSxF
import Derived.Test.YtfkjiiapldkoeaaGreatDoorProg
import Derived.KernelRfl
set_option linter.unusedVariables false
set_option linter.unusedSimpArgs false
set_option linter.deprecated false
set_option maxRecDepth 100000
namespace Go.Sx
open Go.Proofs
def ti (a:Option Addr) (b c:Nat) (d:Option Addr) (e f:Nat) (g:Option Addr) (h i:Nat) (j:Option Addr) (k l:Nat):T :=
 T.new [.slice a b c,.slice d e f,.slice g h i,.slice j k l] 27 fun m =>
 T.ae m [.slice 96,.slice 96,.slice 99,.slice 9] fun n o p q r s t u v w x y =>
 T.call Tryz.prog 18 [.agg #[.slice n o p,.slice q r s,.slice t u v,.slice w x y]] false [(false,[.int .i64])] fun z =>
 cond (z != (0:Int))
 (T.ret (.slice none 0 0))
 (T.ae m [.slice 96] fun A B C =>
 T.ae (m.add 1) [.slice 96] fun D E F =>
 T.call Tryz.prog 42 [.slice A B C] false [(false,[.slice 96])] fun G H I =>
 T.aB [((m.add 1),[.slice D E F])] <|
 T.aS Tryz.prog (Builtin.append_ #[23,23] 23 #[.slice G H I,.slice D E F]) false [(false,[.slice 0])] fun J K L =>
 T.aB [(m,[.slice A B C])] <|
 T.loop [(false,[.slice 0]),(false,[.int .i64])] [.slice none 0 0,vI 0] fun M N O P =>
 cond (decide (P<(K:Int)))
 (T.need (((0:Int)≤P)∧(P<(K:Int))) <|
 T.aw J fun Q =>
 T.ae (Q.add ((Int.toNat P)*10)) yI fun R S U V W X Y Z a0 a1 a2 a3 =>
 T.new [vI 0,.string ⟨#[]⟩,vI 0,vI 0,vI 0,.int .i32 0,vI 0,.slice none 0 0,.int .u32 0,vI 0] 96 fun a4 =>
 T.ao a4 [vI R,.string S,vI U,vI V,vI W,.int .i32 X,vI Y,.slice Z a0 a1,.int .u32 a2,vI a3] <|
 T.ae a4 [.int .i64] fun a5 =>
 cond (a5==(1:Int))
 (T.ae (a4.add 1) [.string] fun a6 =>
 T.aS Tryz.prog (Instr.buildSlice 25 1 #[(0,.string a6)]) false [(false,[.slice 0])] fun a7 a8 a9 =>
 T.aS Tryz.prog (Builtin.append_ #[25,25] 25 #[.slice M N O,.slice a7 a8 a9]) false [(false,[.slice 0])] fun b0 b1 b2 =>
 T.again 0 [.slice b0 b1 b2,vI (IntKind.wrap .i64 (P+(1:Int)))])
 (T.again 0 [.slice M N O,vI (IntKind.wrap .i64 (P+(1:Int)))]))
 (T.ae (m.add 2) [.slice 99] fun Q R S =>
 T.loop [(false,[.slice 0]),(false,[.int .i64])] [.slice M N O,vI 0] fun U V W X =>
 cond (decide (X<(R:Int)))
 (T.need (((0:Int)≤X)∧(X<(R:Int))) <|
 T.aw Q fun Y =>
 T.ae (Y.add ((Int.toNat X)*3)) [.string,.slice 109,.int .u32] fun Z a0 a1 a2 a3 =>
 T.new [.string ⟨#[]⟩,.slice none 0 0,.int .u32 0] 99 fun a4 =>
 T.ao a4 [.string Z,.slice a0 a1 a2,.int .u32 a3] <|
 T.ae a4 [.string] fun a5 =>
 T.aS Tryz.prog (Instr.buildSlice 25 1 #[(0,.string a5)]) false [(false,[.slice 0])] fun a6 a7 a8 =>
 T.aS Tryz.prog (Builtin.append_ #[25,25] 25 #[.slice U V W,.slice a6 a7 a8]) false [(false,[.slice 0])] fun a9 b0 b1 =>
 T.again 1 [.slice a9 b0 b1,vI (IntKind.wrap .i64 (X+(1:Int)))])
 (T.call Tryz.prog 43 [.slice U V W] true [] <| T.ret (.slice U V W))))
theorem vo (a:Option Addr) (b c:Nat) (d:Option Addr) (e f:Nat) (g:Option Addr) (h i:Nat) (j:Option Addr) (k l:Nat):aZ Tryz.prog [] Tryz.f16 [.agg #[.slice a b c,.slice d e f,.slice g h i,.slice j k l]]=ti a b c d e f g h i j k l:=by kernel_rfl
def sF (a:Option Addr) (b c:Nat) (d:Option Addr) (e f:Nat) (g:Option Addr) (h i:Nat) (j:Option Addr) (k l:Nat):T :=
 T.new [.slice a b c,.slice d e f,.slice g h i,.slice j k l] 27 fun m =>
 T.ae m [.slice 96,.slice 96,.slice 99,.slice 9] fun n o p q r s t u v w x y =>
 T.call Tryz.prog 18 [.agg #[.slice n o p,.slice q r s,.slice t u v,.slice w x y]] false [(false,[.int .i64])] fun z =>
 cond (z != (0:Int))
 (T.ret (vI 0))
 (T.ae m [.slice 96] fun A B C =>
 T.loop [(false,[.int .i64]),(false,[.int .i64])] [vI 0,vI 0] fun D E =>
 cond (decide (E<(B:Int)))
 (T.need (((0:Int)≤E)∧(E<(B:Int))) <|
 T.aw A fun F =>
 T.ae (F.add ((Int.toNat E)*10)) yI fun G H I J K L M N O P Q R =>
 T.new [vI 0,.string ⟨#[]⟩,vI 0,vI 0,vI 0,.int .i32 0,vI 0,.slice none 0 0,.int .u32 0,vI 0] 96 fun S =>
 T.ao S [vI G,.string H,vI I,vI J,vI K,.int .i32 L,vI M,.slice N O P,.int .u32 Q,vI R] <|
 T.ae S [.int .i64] fun U =>
 cond (U==(2:Int))
 (T.ae (S.add 2) [.int .i64] fun V =>
 T.call Tryz.prog 51 [vI V] false [(false,[.bool])] fun W =>
 cond W
 (T.again 0 [vI (IntKind.wrap .i64 (D+(1:Int))),vI (IntKind.wrap .i64 (E+(1:Int)))])
 (T.again 0 [vI D,vI (IntKind.wrap .i64 (E+(1:Int)))]))
 (T.again 0 [vI D,vI (IntKind.wrap .i64 (E+(1:Int)))]))
 (T.ret (vI D)))
theorem uO (a:Option Addr) (b c:Nat) (d:Option Addr) (e f:Nat) (g:Option Addr) (h i:Nat) (j:Option Addr) (k l:Nat):aZ Tryz.prog [] Tryz.f21 [.agg #[.slice a b c,.slice d e f,.slice g h i,.slice j k l]]=sF a b c d e f g h i j k l:=by kernel_rfl
def dk (a:Option Addr) (b c:Nat):T :=
 T.aS Tryz.prog (Instr.sliceAt 23 (.slice a b c) none (some (vI (b:Int))) (some (vI (b:Int)))) false [(false,[.slice 0])] fun d e f =>
 T.ret (.slice d e f)
theorem eV (a:Option Addr) (b c:Nat):aZ Tryz.prog [] Tryz.f42 [.slice a b c]=dk a b c:=by kernel_rfl
end Go.Sx
