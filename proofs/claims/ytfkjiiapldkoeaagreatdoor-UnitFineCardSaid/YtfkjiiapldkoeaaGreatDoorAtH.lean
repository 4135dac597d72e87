/- Trees of functions, each checked by the kernel against the code. No condition. -/
import Derived.Test.YtfkjiiapldkoeaaGreatDoorSxF
import Derived.Test.YtfkjiiapldkoeaaGreatDoorProg
import Derived.KernelRfl
set_option linter.unusedVariables false
set_option linter.unusedSimpArgs false
set_option linter.deprecated false
set_option maxRecDepth 100000
namespace Go.Sx
open Go.Proofs
def tF (a:ByteArray) (b:ByteArray) (c:Option Addr) (d e:Nat) (f:Int):T :=
 T.new [.string a,.string b,.slice c d e] 130 fun g =>
 T.new [vI 0,.slice none 0 0,.string ⟨#[]⟩,.slice none 0 0,.int .u32 0,vI 0] 134 fun h =>
 T.join [(false,[.int .i64])]
 (cond (f != (1:Int))
 (T.again 0 [vI 0])
 (T.again 0 [vI f])) fun i =>
 T.ae (g.add 1) [.string] fun j =>
 cond ((ByteArray.toList j)==[])
 (T.ap h [vI 0,.slice none 0 0,.string ⟨#[]⟩,.slice none 0 0,.int .u32 0,vI 0] <|
 T.ae h yT fun k l m n o p q r s t =>
 T.ret (.tuple #[.agg #[vI k,.slice l m n,.string o,.slice p q r,.int .u32 s,vI t],vI 0]))
 (T.new [vI 0,.slice none 0 0,.string ⟨#[]⟩,.slice none 0 0,.int .u32 0,vI 0] 134 fun k =>
 T.join [(false,[.int .i64]),(false,[.int .i64])]
 (T.ae (g.add 1) [.string] fun l =>
 T.call Tryz.prog 98 [.string l] true [(false,[.int .i64]),(false,[.bool])] fun m n =>
 cond n
 (T.new [vI 0,.string ⟨#[]⟩,vI 0,vI 0,vI 0,.int .i32 0,vI 0,.slice none 0 0,.int .u32 0,vI 0] 96 fun o =>
 T.ae (g.add 2) [.slice 174] fun p q r =>
 T.call Tryz.prog 99 [vI m,.slice p q r] true [(true,yI),(false,[.int .i64])] fun s t u v w x y z A B C D E =>
 T.ap o [vI s,.string t,vI u,vI v,vI w,.int .i32 x,vI y,.slice z A B,.int .u32 C,vI D] <|
 T.ae o yI fun F G H I J K L M N O P Q =>
 T.aY Tryz.prog (Instr.buildSlice 23 1 #[(0,.agg #[vI F,.string G,vI H,vI I,vI J,.int .i32 K,vI L,.slice M N O,.int .u32 P,vI Q])]) false [(false,[.slice 0])] fun R S U =>
 T.ap k [vI 1,.slice R S U,.string ⟨#[]⟩,.slice none 0 0,.int .u32 0,vI 0] <|
 T.again 0 [vI 0,vI E])
 (T.ae (g.add 1) [.string] fun o =>
 T.ae (g.add 2) [.slice 174] fun p q r =>
 T.call Tryz.prog 100 [.string o,.slice p q r] true [(true,yT),(false,[.int .i64]),(false,[.int .i64])] fun s t u v w x y z A B C D =>
 T.ap k [vI s,.slice t u v,.string w,.slice x y z,.int .u32 A,vI B] <|
 T.again 0 [vI C,vI D])) fun l m =>
 cond (m != (0:Int))
 (T.ap h [vI 0,.slice none 0 0,.string ⟨#[]⟩,.slice none 0 0,.int .u32 0,vI 0] <|
 T.ae h yT fun n o p q r s t u v w =>
 T.ret (.tuple #[.agg #[vI n,.slice o p q,.string r,.slice s t u,.int .u32 v,vI w],vI m]))
 (cond (decide (l≥(0:Int)))
 (cond (l != i)
 (T.ap h [vI 0,.slice none 0 0,.string ⟨#[]⟩,.slice none 0 0,.int .u32 0,vI 0] <|
 T.ae h yT fun n o p q r s t u v w =>
 T.ret (.tuple #[.agg #[vI n,.slice o p q,.string r,.slice s t u,.int .u32 v,vI w],vI 21]))
 (T.ae k yT fun n o p q r s t u v w =>
 T.ap h [vI n,.slice o p q,.string r,.slice s t u,.int .u32 v,vI w] <|
 T.ae h yT fun x y z A B C D E F G =>
 T.ret (.tuple #[.agg #[vI x,.slice y z A,.string B,.slice C D E,.int .u32 F,vI G],vI 0])))
 (T.ae k yT fun n o p q r s t u v w =>
 T.ap h [vI n,.slice o p q,.string r,.slice s t u,.int .u32 v,vI w] <|
 T.ae h yT fun x y z A B C D E F G =>
 T.ret (.tuple #[.agg #[vI x,.slice y z A,.string B,.slice C D E,.int .u32 F,vI G],vI 0]))))
theorem uV (a:ByteArray) (b:ByteArray) (c:Option Addr) (d e:Nat) (f:Int):aX Tryz.prog [1003,1014] Tryz.f65 [.agg #[.string a,.string b,.slice c d e],vI f]=tF a b c d e f:=by kernel_rfl
end Go.Sx
