/- Trees of functions, each checked by the kernel against the code. No condition. -/
import Derived.Test.YtfkjiiapldkoeaaGreatDoorSxF
import Derived.Test.YtfkjiiapldkoeaaGreatDoorProg
import Derived.KernelRfl
set_option linter.unusedVariables false
set_option linter.unusedSimpArgs false
set_option linter.deprecated false
set_option maxRecDepth 100000
namespace Go.Sx
open Go.Proofs
def fv (a:Int) (b:ByteArray) (c:Int) (d:Int) (e:Int) (f:Int) (g:Int) (h:Option Addr) (i:Nat) (j:Nat) (k:Int) (l:Int):T :=
 T.new [vI a,.string b,vI c,vI d,vI e,.int .i32 f,vI g,.slice h i j,.int .u32 k,vI l] 96 fun m =>
 T.join [(false,[.bool])]
 (T.ae m [.int .i64] fun n =>
 cond (n==(1:Int))
 (T.ae (m.add 1) [.string] fun o =>
 T.call Tryz.prog 48 [.string o] false [(false,[.bool])] fun p =>
 cond p
 (T.ae m yI fun q r s t u v w x y z A B =>
 T.call Tryz.prog 83 [.agg #[vI q,.string r,vI s,vI t,vI u,.int .i32 v,vI w,.slice x y z,.int .u32 A,vI B],.bool false,.bool true,.bool true,.bool true] false [(false,[.bool])] fun C =>
 T.again 0 [.bool C])
 (T.again 0 [.bool false]))
 (cond (n==(2:Int))
 (T.ae (m.add 2) [.int .i64,.int .i64,.int .i64,.int .i32,.int .i64] fun o p q r s =>
 T.new [vI 0,vI 0,vI 0,.int .i32 0,vI 0] 90 fun t =>
 T.ap t [vI o,vI p,vI q,.int .i32 r,vI s] <|
 T.ae (t.add 4) [.int .i64] fun u =>
 T.join []
 (T.ae t [.int .i64] fun v =>
 T.call Tryz.prog 53 [vI v] false [(false,[.bool])] fun w =>
 cond w
 (T.ap (t.add 4) [vI 1] <|
 T.again 1 [])
 (T.again 1 [])) <| T.join [(false,[.bool])]
 (cond (u==(0:Int))
 (T.ae t [.int .i64,.int .i64,.int .i64,.int .i32,.int .i64] fun v w x y z =>
 T.call Tryz.prog 84 [.agg #[vI v,vI w,vI x,.int .i32 y,vI z]] false [(false,[.int .i64])] fun A =>
 cond (A==(0:Int))
 (T.ae m yI fun B C D E F G H I J K L M =>
 T.call Tryz.prog 83 [.agg #[vI B,.string C,vI D,vI E,vI F,.int .i32 G,vI H,.slice I J K,.int .u32 L,vI M],.bool true,.bool false,.bool false,.bool true] false [(false,[.bool])] fun N =>
 T.again 1 [.bool N])
 (T.again 1 [.bool false]))
 (T.again 1 [.bool false])) fun v =>
 T.ae t [.int .i64] fun w =>
 T.call Tryz.prog 85 [vI w] false [(false,[.bool])] fun x =>
 cond x
 (cond v
 (T.ae (t.add 3) [.int .i32] fun y =>
 cond (y==(0:Int))
 (T.ae (m.add 7) [.slice 109,.int .u32] fun z A B C =>
 T.call Tryz.prog 49 [.agg #[.slice z A B,.int .u32 C]] false [(false,[.bool])] fun D =>
 T.again 0 [.bool D])
 (T.again 0 [.bool false]))
 (T.again 0 [.bool false]))
 (cond v
 (T.ae m yI fun y z A B C D E F G H I J =>
 T.call Tryz.prog 83 [.agg #[vI y,.string z,vI A,vI B,vI C,.int .i32 D,vI E,.slice F G H,.int .u32 I,vI J],.bool false,.bool false,.bool true,.bool false] false [(false,[.bool])] fun K =>
 T.again 0 [.bool K])
 (T.again 0 [.bool false])))
 (cond (n==(3:Int))
 (T.ae (m.add 9) [.int .i64] fun o =>
 T.call Tryz.prog 86 [vI o] false [(false,[.bool])] fun p =>
 cond p
 (T.ae m yI fun q r s t u v w x y z A B =>
 T.call Tryz.prog 83 [.agg #[vI q,.string r,vI s,vI t,vI u,.int .i32 v,vI w,.slice x y z,.int .u32 A,vI B],.bool true,.bool true,.bool true,.bool false] false [(false,[.bool])] fun C =>
 T.again 0 [.bool C])
 (T.again 0 [.bool false]))
 (cond (n==(4:Int))
 (T.ae m yI fun o p q r s t u v w x y z =>
 T.call Tryz.prog 83 [.agg #[vI o,.string p,vI q,vI r,vI s,.int .i32 t,vI u,.slice v w x,.int .u32 y,vI z],.bool true,.bool true,.bool true,.bool true] false [(false,[.bool])] fun A =>
 T.again 0 [.bool A])
 (cond (n==(5:Int))
 (T.again 0 [.bool false])
 (cond (n==(6:Int))
 (T.again 0 [.bool false])
 (cond (n==(7:Int))
 (T.again 0 [.bool false])
 (T.again 0 [.bool false])))))))) fun n =>
 cond (!n)
 (T.ret (vI 31))
 (T.ret (vI 0))
theorem jw (a:Int) (b:ByteArray) (c:Int) (d:Int) (e:Int) (f:Int) (g:Int) (h:Option Addr) (i:Nat) (j:Nat) (k:Int) (l:Int):aV Tryz.prog [1012,1013,1026] Tryz.f47 [.agg #[vI a,.string b,vI c,vI d,vI e,.int .i32 f,vI g,.slice h i j,.int .u32 k,vI l],vI 0]=fv a b c d e f g h i j k l:=by kernel_rfl
def fw (a:Int) (b:ByteArray) (c:Int) (d:Int) (e:Int) (f:Int) (g:Int) (h:Option Addr) (i:Nat) (j:Nat) (k:Int) (l:Int):T :=
 T.new [vI a,.string b,vI c,vI d,vI e,.int .i32 f,vI g,.slice h i j,.int .u32 k,vI l] 96 fun m =>
 T.join [(false,[.bool])]
 (T.ae m [.int .i64] fun n =>
 cond (n==(1:Int))
 (T.ae (m.add 1) [.string] fun o =>
 T.call Tryz.prog 48 [.string o] false [(false,[.bool])] fun p =>
 cond p
 (T.ae m yI fun q r s t u v w x y z A B =>
 T.call Tryz.prog 83 [.agg #[vI q,.string r,vI s,vI t,vI u,.int .i32 v,vI w,.slice x y z,.int .u32 A,vI B],.bool false,.bool true,.bool true,.bool true] false [(false,[.bool])] fun C =>
 T.again 0 [.bool C])
 (T.again 0 [.bool false]))
 (cond (n==(2:Int))
 (T.ae (m.add 2) [.int .i64,.int .i64,.int .i64,.int .i32,.int .i64] fun o p q r s =>
 T.new [vI 0,vI 0,vI 0,.int .i32 0,vI 0] 90 fun t =>
 T.ap t [vI o,vI p,vI q,.int .i32 r,vI s] <|
 T.ae (t.add 4) [.int .i64] fun u =>
 T.join []
 (T.ae t [.int .i64] fun v =>
 T.call Tryz.prog 53 [vI v] false [(false,[.bool])] fun w =>
 cond w
 (T.ap (t.add 4) [vI 1] <|
 T.again 1 [])
 (T.again 1 [])) <| T.join [(false,[.bool])]
 (T.again 1 [.bool false]) fun v =>
 T.ae t [.int .i64] fun w =>
 T.call Tryz.prog 85 [vI w] false [(false,[.bool])] fun x =>
 cond x
 (cond v
 (T.ae (t.add 3) [.int .i32] fun y =>
 cond (y==(0:Int))
 (T.ae (m.add 7) [.slice 109,.int .u32] fun z A B C =>
 T.call Tryz.prog 49 [.agg #[.slice z A B,.int .u32 C]] false [(false,[.bool])] fun D =>
 T.again 0 [.bool D])
 (T.again 0 [.bool false]))
 (T.again 0 [.bool false]))
 (cond v
 (T.ae m yI fun y z A B C D E F G H I J =>
 T.call Tryz.prog 83 [.agg #[vI y,.string z,vI A,vI B,vI C,.int .i32 D,vI E,.slice F G H,.int .u32 I,vI J],.bool false,.bool false,.bool true,.bool false] false [(false,[.bool])] fun K =>
 T.again 0 [.bool K])
 (T.again 0 [.bool false])))
 (cond (n==(3:Int))
 (T.ae (m.add 9) [.int .i64] fun o =>
 T.call Tryz.prog 86 [vI o] false [(false,[.bool])] fun p =>
 cond p
 (T.ae m yI fun q r s t u v w x y z A B =>
 T.call Tryz.prog 83 [.agg #[vI q,.string r,vI s,vI t,vI u,.int .i32 v,vI w,.slice x y z,.int .u32 A,vI B],.bool true,.bool true,.bool true,.bool false] false [(false,[.bool])] fun C =>
 T.again 0 [.bool C])
 (T.again 0 [.bool false]))
 (cond (n==(4:Int))
 (T.again 0 [.bool false])
 (cond (n==(5:Int))
 (T.ae (m.add 9) [.int .i64] fun o =>
 cond (decide (o≥(-128:Int)))
 (T.ae (m.add 9) [.int .i64] fun p =>
 cond (decide (p≤(255:Int)))
 (T.ae m yI fun q r s t u v w x y z A B =>
 T.call Tryz.prog 83 [.agg #[vI q,.string r,vI s,vI t,vI u,.int .i32 v,vI w,.slice x y z,.int .u32 A,vI B],.bool true,.bool true,.bool true,.bool false] false [(false,[.bool])] fun C =>
 T.again 0 [.bool C])
 (T.again 0 [.bool false]))
 (T.again 0 [.bool false]))
 (cond (n==(6:Int))
 (T.ae (m.add 7) [.slice 109,.int .u32] fun o p q r =>
 T.call Tryz.prog 49 [.agg #[.slice o p q,.int .u32 r]] false [(false,[.bool])] fun s =>
 cond s
 (T.ae m yI fun t u v w x y z A B C D E =>
 T.call Tryz.prog 83 [.agg #[vI t,.string u,vI v,vI w,vI x,.int .i32 y,vI z,.slice A B C,.int .u32 D,vI E],.bool true,.bool true,.bool false,.bool true] false [(false,[.bool])] fun F =>
 T.again 0 [.bool F])
 (T.again 0 [.bool false]))
 (cond (n==(7:Int))
 (T.ae (m.add 9) [.int .i64] fun o =>
 cond (decide (o≥(0:Int)))
 (T.ae (m.add 9) [.int .i64] fun p =>
 cond (decide (p≤(1048576:Int)))
 (T.ae m yI fun q r s t u v w x y z A B =>
 T.call Tryz.prog 83 [.agg #[vI q,.string r,vI s,vI t,vI u,.int .i32 v,vI w,.slice x y z,.int .u32 A,vI B],.bool true,.bool true,.bool true,.bool false] false [(false,[.bool])] fun C =>
 T.again 0 [.bool C])
 (T.again 0 [.bool false]))
 (T.again 0 [.bool false]))
 (T.again 0 [.bool false])))))))) fun n =>
 cond (!n)
 (T.ret (vI 31))
 (T.ret (vI 0))
theorem jM (a:Int) (b:ByteArray) (c:Int) (d:Int) (e:Int) (f:Int) (g:Int) (h:Option Addr) (i:Nat) (j:Nat) (k:Int) (l:Int):aV Tryz.prog [1012,1013,1026] Tryz.f47 [.agg #[vI a,.string b,vI c,vI d,vI e,.int .i32 f,vI g,.slice h i j,.int .u32 k,vI l],vI 1]=fw a b c d e f g h i j k l:=by kernel_rfl
end Go.Sx
