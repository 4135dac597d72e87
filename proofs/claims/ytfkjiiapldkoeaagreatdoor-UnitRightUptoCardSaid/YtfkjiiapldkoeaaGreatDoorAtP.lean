/- Trees of functions, each checked by the kernel against the code. No condition. -/
import Derived.Test.YtfkjiiapldkoeaaGreatDoorSxF
import Derived.Test.YtfkjiiapldkoeaaGreatDoorProg
import Derived.KernelRfl
set_option linter.unusedVariables false
set_option linter.unusedSimpArgs false
set_option linter.deprecated false
set_option maxRecDepth 100000
namespace Go.Sx
open Go.Proofs
def fc (a:Option Addr) (b c:Nat) (d:Option Addr) (e f:Nat) (g:Option Addr) (h i:Nat) (j:Option Addr) (k l:Nat):T :=
 T.new [.slice a b c,.slice d e f,.slice g h i,.slice j k l] 27 fun m =>
 T.ae m [.slice 96,.slice 96,.slice 99,.slice 9] fun n o p q r s t u v w x y =>
 T.bj Tryz.prog (Instr.buildSlice 47 1 #[(0,.agg #[.slice n o p,.slice q r s,.slice t u v,.slice w x y])]) false [(false,[.slice 0])] fun z A B =>
 T.call Tryz.prog 19 [.slice z A B] false [(false,[.bool])] fun C =>
 cond C
 (T.call Tryz.prog 14 [] false [(false,[.bool])] fun D =>
 T.ret (.bool D))
 (T.ae m [.slice 96,.slice 96,.slice 99,.slice 9] fun D E F G H I J K L M N O =>
 T.call Tryz.prog 20 [.agg #[.slice D E F,.slice G H I,.slice J K L,.slice M N O]] false [(false,[.int .i64])] fun P =>
 T.ae m [.slice 96,.slice 96,.slice 99,.slice 9] fun Q R S U V W X Y Z a0 a1 a2 =>
 T.call Tryz.prog 18 [.agg #[.slice Q R S,.slice U V W,.slice X Y Z,.slice a0 a1 a2]] false [(false,[.int .i64])] fun a3 =>
 cond (a3 != P)
 (T.ret (.bool false))
 (cond (P != (0:Int))
 (T.ae m [.slice 96,.slice 96,.slice 99,.slice 9] fun a4 a5 a6 a7 a8 a9 b0 b1 b2 b3 b4 b5 =>
 T.call Tryz.prog 16 [.agg #[.slice a4 a5 a6,.slice a7 a8 a9,.slice b0 b1 b2,.slice b3 b4 b5]] false [(false,[.slice 9])] fun b6 b7 b8 =>
 cond ((b7:Int)==(0:Int))
 (T.ae m [.slice 96,.slice 96,.slice 99,.slice 9] fun b9 c0 c1 c2 c3 c4 c5 c6 c7 c8 c9 d0 =>
 T.call Tryz.prog 21 [.agg #[.slice b9 c0 c1,.slice c2 c3 c4,.slice c5 c6 c7,.slice c8 c9 d0]] false [(false,[.int .i64])] fun d1 =>
 cond (d1==(0:Int))
 (T.call Tryz.prog 14 [] false [(false,[.bool])] fun d2 =>
 T.ret (.bool d2))
 (T.ret (.bool false)))
 (T.ret (.bool false)))
 (T.ae m [.slice 96,.slice 96,.slice 99,.slice 9] fun a4 a5 a6 a7 a8 a9 b0 b1 b2 b3 b4 b5 =>
 T.ae m [.slice 96,.slice 96,.slice 99,.slice 9] fun b6 b7 b8 b9 c0 c1 c2 c3 c4 c5 c6 c7 =>
 T.call Tryz.prog 16 [.agg #[.slice a4 a5 a6,.slice a7 a8 a9,.slice b0 b1 b2,.slice b3 b4 b5]] false [(false,[.slice 9])] fun c8 c9 d0 =>
 T.aM [(m,[.slice b6 b7 b8,.slice b9 c0 c1,.slice c2 c3 c4,.slice c5 c6 c7])] <|
 T.call Tryz.prog 23 [.agg #[.slice b6 b7 b8,.slice b9 c0 c1,.slice c2 c3 c4,.slice c5 c6 c7]] false [(false,[.slice 9])] fun d1 d2 d3 =>
 T.aM [(m,[.slice a4 a5 a6,.slice a7 a8 a9,.slice b0 b1 b2,.slice b3 b4 b5])] <|
 T.call Tryz.prog 22 [.slice d1 d2 d3] false [(false,[.slice 9])] fun d4 d5 d6 =>
 T.aM [(m,[.slice b6 b7 b8,.slice b9 c0 c1,.slice c2 c3 c4,.slice c5 c6 c7]),(m,[.slice a4 a5 a6,.slice a7 a8 a9,.slice b0 b1 b2,.slice b3 b4 b5])] <|
 T.call Tryz.prog 15 [.slice c8 c9 d0,.slice d4 d5 d6] false [(false,[.bool])] fun d7 =>
 T.aM [(m,[.slice b6 b7 b8,.slice b9 c0 c1,.slice c2 c3 c4,.slice c5 c6 c7]),(m,[.slice a4 a5 a6,.slice a7 a8 a9,.slice b0 b1 b2,.slice b3 b4 b5])] <|
 cond d7
 (T.ae m [.slice 96,.slice 96,.slice 99,.slice 9] fun d8 d9 e0 e1 e2 e3 e4 e5 e6 e7 e8 e9 =>
 T.ae m [.slice 96,.slice 96,.slice 99,.slice 9] fun f0 f1 f2 f3 f4 f5 f6 f7 f8 f9 g0 g1 =>
 T.call Tryz.prog 21 [.agg #[.slice d8 d9 e0,.slice e1 e2 e3,.slice e4 e5 e6,.slice e7 e8 e9]] false [(false,[.int .i64])] fun g2 =>
 T.aM [(m,[.slice f0 f1 f2,.slice f3 f4 f5,.slice f6 f7 f8,.slice f9 g0 g1]),(m,[.slice b6 b7 b8,.slice b9 c0 c1,.slice c2 c3 c4,.slice c5 c6 c7]),(m,[.slice a4 a5 a6,.slice a7 a8 a9,.slice b0 b1 b2,.slice b3 b4 b5])] <|
 T.call Tryz.prog 24 [.agg #[.slice f0 f1 f2,.slice f3 f4 f5,.slice f6 f7 f8,.slice f9 g0 g1]] false [(false,[.int .i64])] fun g3 =>
 T.aM [(m,[.slice d8 d9 e0,.slice e1 e2 e3,.slice e4 e5 e6,.slice e7 e8 e9]),(m,[.slice b6 b7 b8,.slice b9 c0 c1,.slice c2 c3 c4,.slice c5 c6 c7]),(m,[.slice a4 a5 a6,.slice a7 a8 a9,.slice b0 b1 b2,.slice b3 b4 b5])] <|
 cond (g2==g3)
 (T.call Tryz.prog 14 [] false [(false,[.bool])] fun g4 =>
 T.aM [(m,[.slice f0 f1 f2,.slice f3 f4 f5,.slice f6 f7 f8,.slice f9 g0 g1]),(m,[.slice d8 d9 e0,.slice e1 e2 e3,.slice e4 e5 e6,.slice e7 e8 e9]),(m,[.slice b6 b7 b8,.slice b9 c0 c1,.slice c2 c3 c4,.slice c5 c6 c7]),(m,[.slice a4 a5 a6,.slice a7 a8 a9,.slice b0 b1 b2,.slice b3 b4 b5])] <|
 T.ret (.bool g4))
 (T.ret (.bool false)))
 (T.ret (.bool false)))))
theorem jb (a:Option Addr) (b c:Nat) (d:Option Addr) (e f:Nat) (g:Option Addr) (h i:Nat) (j:Option Addr) (k l:Nat):aV Tryz.prog [] Tryz.f5 [.agg #[.slice a b c,.slice d e f,.slice g h i,.slice j k l]]=fc a b c d e f g h i j k l:=by kernel_rfl
end Go.Sx
