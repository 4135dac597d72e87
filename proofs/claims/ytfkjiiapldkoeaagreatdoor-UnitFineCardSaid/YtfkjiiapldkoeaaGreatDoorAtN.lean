/- Trees of functions, each checked by the kernel against the code. No condition. -/
import Derived.Test.YtfkjiiapldkoeaaGreatDoorSxF
import Derived.Test.YtfkjiiapldkoeaaGreatDoorProg
import Derived.KernelRfl
set_option linter.unusedVariables false
set_option linter.unusedSimpArgs false
set_option linter.deprecated false
set_option maxRecDepth 100000
namespace Go.Sx
open Go.Proofs
def rn (a:Option Addr) (b c:Nat) (d:Option Addr) (e f:Nat) (g:Option Addr) (h i:Nat) (j:Option Addr) (k l:Nat):T :=
 T.new [.slice a b c,.slice d e f,.slice g h i,.slice j k l] 27 fun m =>
 T.ae m [.slice 96,.slice 96,.slice 99,.slice 9] fun n o p q r s t u v w x y =>
 T.call Tryz.prog 18 [.agg #[.slice n o p,.slice q r s,.slice t u v,.slice w x y]] false [(false,[.int .i64])] fun z =>
 cond (z != (0:Int))
 (T.ret (vI 0))
 (T.ae m [.slice 96] fun A B C =>
 T.loop [(false,[.int .i64]),(false,[.int .i64])] [vI 0,vI 0] fun D E =>
 cond (decide (E<(B:Int)))
 (T.need (((0:Int)≤E)∧(E<(B:Int))) <|
 T.au A fun F =>
 T.ae (F.add ((Int.toNat E)*10)) yI fun G H I J K L M N O P Q R =>
 T.new [vI 0,.string ⟨#[]⟩,vI 0,vI 0,vI 0,.int .i32 0,vI 0,.slice none 0 0,.int .u32 0,vI 0] 96 fun S =>
 T.ap S [vI G,.string H,vI I,vI J,vI K,.int .i32 L,vI M,.slice N O P,.int .u32 Q,vI R] <|
 T.ae S [.int .i64] fun U =>
 cond (U==(2:Int))
 (T.ae (S.add 2) [.int .i64] fun V =>
 T.call Tryz.prog 51 [vI V] false [(false,[.bool])] fun W =>
 cond W
 (T.again 0 [vI (IntKind.wrap .i64 (D+(1:Int))),vI (IntKind.wrap .i64 (E+(1:Int)))])
 (T.again 0 [vI D,vI (IntKind.wrap .i64 (E+(1:Int)))]))
 (T.again 0 [vI D,vI (IntKind.wrap .i64 (E+(1:Int)))]))
 (T.ret (vI D)))
theorem tY (a:Option Addr) (b c:Nat) (d:Option Addr) (e f:Nat) (g:Option Addr) (h i:Nat) (j:Option Addr) (k l:Nat):aX Tryz.prog [] Tryz.f21 [.agg #[.slice a b c,.slice d e f,.slice g h i,.slice j k l]]=rn a b c d e f g h i j k l:=by kernel_rfl
end Go.Sx
