/- Trees of functions, each checked by the kernel against the code. No condition. -/
import Derived.Test.YtfkjiiapldkoeaaGreatDoorSxF
import Derived.Test.YtfkjiiapldkoeaaGreatDoorProg
import Derived.KernelRfl
set_option linter.unusedVariables false
set_option linter.unusedSimpArgs false
set_option linter.deprecated false
set_option maxRecDepth 100000
namespace Go.Sx
open Go.Proofs
def tp (a:Int) (b:Option Addr) (c d:Nat):T :=
 T.new [vI 0,.string ⟨#[]⟩,vI 0,vI 0,vI 0,.int .i32 0,vI 0,.slice none 0 0,.int .u32 0,vI 0] 96 fun e =>
 T.call Tryz.prog 90 [vI a] true [(true,[.string,.int .u8,.int .i64]),(false,[.bool])] fun f g h i =>
 T.new [.string ⟨#[]⟩,.int .u8 0,vI 0] 158 fun j =>
 T.ap j [.string f,.int .u8 g,vI h] <|
 T.ae (j.add 2) [.int .i64] fun k =>
 T.call Tryz.prog 124 [vI k] false [(false,[.slice 20])] fun l m n =>
 cond ((m:Int) != (c:Int))
 (T.ap e [vI 0,.string ⟨#[]⟩,vI 0,vI 0,vI 0,.int .i32 0,vI 0,.slice none 0 0,.int .u32 0,vI 0] <|
 T.ae e yI fun o p q r s t u v w x y z =>
 T.ret (.tuple #[.agg #[vI o,.string p,vI q,vI r,vI s,.int .i32 t,vI u,.slice v w x,.int .u32 y,vI z],vI 20]))
 (T.new [vI 0,.string ⟨#[]⟩,vI 0,vI 0,vI 0,.int .i32 0,vI 0,.slice none 0 0,.int .u32 0,vI 0] 96 fun o =>
 T.ap o [vI 2,.string ⟨#[]⟩,vI a,vI 0,vI 0,.int .i32 0,vI 0,.slice none 0 0,.int .u32 0,vI 0] <|
 T.loop [(false,[.int .i64]),(false,[.int .i64])] [vI 0,vI 0] fun p q =>
 cond (decide (q<(m:Int)))
 (T.need (((0:Int)≤q)∧(q<(m:Int))) <|
 T.au l fun r =>
 T.ae (r.add ((Int.toNat q)*1)) [.interface #[]] fun (s:Value) =>
 T.need (((0:Int)≤q)∧(q<(c:Int))) <|
 T.au b fun t =>
 T.ae (t.add ((Int.toNat q)*1)) [.slice 178] fun u v w =>
 T.call Tryz.prog 125 [.pointer (some o),s,.slice u v w] false [(false,[.int .i64])] fun x =>
 cond (x != (0:Int))
 (T.ap e [vI 0,.string ⟨#[]⟩,vI 0,vI 0,vI 0,.int .i32 0,vI 0,.slice none 0 0,.int .u32 0,vI 0] <|
 T.ae e yI fun y z A B C D E F G H I J =>
 T.ret (.tuple #[.agg #[vI y,.string z,vI A,vI B,vI C,.int .i32 D,vI E,.slice F G H,.int .u32 I,vI J],vI x]))
 (T.again 0 [vI p,vI (IntKind.wrap .i64 (q+(1:Int)))]))
 (T.ae o yI fun r s t u v w x y z A B C =>
 T.ap e [vI r,.string s,vI t,vI u,vI v,.int .i32 w,vI x,.slice y z A,.int .u32 B,vI C] <|
 T.ae e yI fun D E F G H I J K L M N O =>
 T.ret (.tuple #[.agg #[vI D,.string E,vI F,vI G,vI H,.int .i32 I,vI J,.slice K L M,.int .u32 N,vI O],vI 0])))
theorem wV (a:Int) (b:Option Addr) (c d:Nat):aX Tryz.prog [] Tryz.f99 [vI a,.slice b c d]=tp a b c d:=by kernel_rfl
def ki (a:ByteArray) (b:Option Addr) (c d:Nat):T :=
 T.new [vI 0,.slice none 0 0,.string ⟨#[]⟩,.slice none 0 0,.int .u32 0,vI 0] 134 fun e =>
 T.call Tryz.prog 126 [.string a] true [(false,[.int .i64]),(false,[.bool])] fun f g =>
 T.join [(false,[.int .i64]),(false,[.int .i64])]
 (cond (!g)
 (T.ap e [vI 0,.slice none 0 0,.string ⟨#[]⟩,.slice none 0 0,.int .u32 0,vI 0] <|
 T.ae e yT fun h i j k l m n o p q =>
 T.ret (.tuple #[.agg #[vI h,.slice i j k,.string l,.slice m n o,.int .u32 p,vI q],vI 0,vI 20]))
 (cond (decide (f≥(0:Int)))
 (cond ((c:Int) != f)
 (T.ap e [vI 0,.slice none 0 0,.string ⟨#[]⟩,.slice none 0 0,.int .u32 0,vI 0] <|
 T.ae e yT fun h i j k l m n o p q =>
 T.ret (.tuple #[.agg #[vI h,.slice i j k,.string l,.slice m n o,.int .u32 p,vI q],vI 0,vI 20]))
 (T.again 0 [vI 0,vI 0]))
 (T.again 0 [vI 0,vI 0]))) fun h i =>
 cond ((ByteArray.toList a)==[({ toBitVec:=112#8 }),({ toBitVec:=111#8 }),({ toBitVec:=111#8 }),({ toBitVec:=108#8 })])
 (T.aY Tryz.prog (Instr.buildSlice 23 1 #[(0,.agg #[vI 4,.string ⟨#[]⟩,vI 0,vI 0,vI 0,.int .i32 0,vI 0,.slice none 0 0,.int .u32 0,vI 0])]) false [(false,[.slice 0])] fun j k l =>
 T.ap e [vI 1,.slice j k l,.string ⟨#[]⟩,.slice none 0 0,.int .u32 0,vI 0] <|
 T.ae e yT fun m n o p q r s t u v =>
 T.ret (.tuple #[.agg #[vI m,.slice n o p,.string q,.slice r s t,.int .u32 u,vI v],vI 0,vI 0]))
 (cond ((ByteArray.toList a)==[({ toBitVec:=97#8 }),({ toBitVec:=108#8 }),({ toBitVec:=105#8 }),({ toBitVec:=103#8 }),({ toBitVec:=110#8 })])
 (T.need (((0:Int)≤(0:Int))∧((0:Int)<(c:Int))) <|
 T.au b fun j =>
 T.ae j [.slice 178] fun k l m =>
 T.call Tryz.prog 127 [.slice k l m,vI 1,vI 256] true [(false,[.int .i64]),(false,[.int .i64])] fun n o =>
 cond (o==(0:Int))
 (T.call Tryz.prog 79 [vI n] false [(false,[.bool])] fun p =>
 cond (!p)
 (T.aY Tryz.prog (Instr.buildSlice 23 1 #[(0,.agg #[vI 3,.string ⟨#[]⟩,vI 0,vI 0,vI 0,.int .i32 0,vI 0,.slice none 0 0,.int .u32 0,vI n])]) false [(false,[.slice 0])] fun q r s =>
 T.ap e [vI 1,.slice q r s,.string ⟨#[]⟩,.slice none 0 0,.int .u32 0,vI 0] <|
 T.ae e yT fun t u v w x y z A B C =>
 T.ret (.tuple #[.agg #[vI t,.slice u v w,.string x,.slice y z A,.int .u32 B,vI C],vI (-1:Int),vI 21]))
 (T.aY Tryz.prog (Instr.buildSlice 23 1 #[(0,.agg #[vI 3,.string ⟨#[]⟩,vI 0,vI 0,vI 0,.int .i32 0,vI 0,.slice none 0 0,.int .u32 0,vI n])]) false [(false,[.slice 0])] fun q r s =>
 T.ap e [vI 1,.slice q r s,.string ⟨#[]⟩,.slice none 0 0,.int .u32 0,vI 0] <|
 T.ae e yT fun t u v w x y z A B C =>
 T.ret (.tuple #[.agg #[vI t,.slice u v w,.string x,.slice y z A,.int .u32 B,vI C],vI (-1:Int),vI o])))
 (T.aY Tryz.prog (Instr.buildSlice 23 1 #[(0,.agg #[vI 3,.string ⟨#[]⟩,vI 0,vI 0,vI 0,.int .i32 0,vI 0,.slice none 0 0,.int .u32 0,vI n])]) false [(false,[.slice 0])] fun p q r =>
 T.ap e [vI 1,.slice p q r,.string ⟨#[]⟩,.slice none 0 0,.int .u32 0,vI 0] <|
 T.ae e yT fun s t u v w x y z A B =>
 T.ret (.tuple #[.agg #[vI s,.slice t u v,.string w,.slice x y z,.int .u32 A,vI B],vI (-1:Int),vI o])))
 (cond ((ByteArray.toList a)==[({ toBitVec:=115#8 }),({ toBitVec:=112#8 }),({ toBitVec:=97#8 }),({ toBitVec:=99#8 }),({ toBitVec:=101#8 })])
 (T.need (((0:Int)≤(0:Int))∧((0:Int)<(c:Int))) <|
 T.au b fun j =>
 T.ae j [.slice 178] fun k l m =>
 T.call Tryz.prog 127 [.slice k l m,vI 0,vI 1048576] true [(false,[.int .i64]),(false,[.int .i64])] fun n o =>
 T.aY Tryz.prog (Instr.buildSlice 23 1 #[(0,.agg #[vI 7,.string ⟨#[]⟩,vI 0,vI 0,vI 0,.int .i32 0,vI 0,.slice none 0 0,.int .u32 0,vI n])]) false [(false,[.slice 0])] fun p q r =>
 T.ap e [vI 1,.slice p q r,.string ⟨#[]⟩,.slice none 0 0,.int .u32 0,vI 0] <|
 T.ae e yT fun s t u v w x y z A B =>
 T.ret (.tuple #[.agg #[vI s,.slice t u v,.string w,.slice x y z,.int .u32 A,vI B],vI 1,vI o]))
 (cond ((ByteArray.toList a)==[({ toBitVec:=98#8 }),({ toBitVec:=121#8 }),({ toBitVec:=116#8 }),({ toBitVec:=101#8 })])
 (T.call Tryz.prog 128 [vI 5,.slice b c d] true [(false,[.slice 96]),(false,[.int .i64])] fun j k l m =>
 T.ap e [vI 2,.slice j k l,.string ⟨#[]⟩,.slice none 0 0,.int .u32 0,vI 0] <|
 T.ae e yT fun n o p q r s t u v w =>
 T.ret (.tuple #[.agg #[vI n,.slice o p q,.string r,.slice s t u,.int .u32 v,vI w],vI 1,vI m]))
 (cond ((ByteArray.toList a)==[({ toBitVec:=119#8 }),({ toBitVec:=111#8 }),({ toBitVec:=114#8 }),({ toBitVec:=100#8 })])
 (T.call Tryz.prog 128 [vI 6,.slice b c d] true [(false,[.slice 96]),(false,[.int .i64])] fun j k l m =>
 T.ap e [vI 2,.slice j k l,.string ⟨#[]⟩,.slice none 0 0,.int .u32 0,vI 0] <|
 T.ae e yT fun n o p q r s t u v w =>
 T.ret (.tuple #[.agg #[vI n,.slice o p q,.string r,.slice s t u,.int .u32 v,vI w],vI 1,vI m]))
 (cond ((ByteArray.toList a)==[({ toBitVec:=101#8 }),({ toBitVec:=113#8 }),({ toBitVec:=117#8 })])
 (T.need (((0:Int)≤(0:Int))∧((0:Int)<(c:Int))) <|
 T.au b fun j =>
 T.ae j [.slice 178] fun k l m =>
 T.call Tryz.prog 129 [.slice k l m] true [(false,[.string]),(false,[.int .i64])] fun n o =>
 cond (o != (0:Int))
 (T.ap e [vI 0,.slice none 0 0,.string ⟨#[]⟩,.slice none 0 0,.int .u32 0,vI 0] <|
 T.ae e yT fun p q r s t u v w x y =>
 T.ret (.tuple #[.agg #[vI p,.slice q r s,.string t,.slice u v w,.int .u32 x,vI y],vI (-1:Int),vI o]))
 (T.need (((0:Int)≤(1:Int))∧((1:Int)<(c:Int))) <|
 T.au b fun p =>
 T.ae (p.add 1) [.slice 178] fun q r s =>
 T.call Tryz.prog 130 [.slice q r s] true [(true,[.slice 109,.int .u32]),(false,[.int .i64])] fun t u v w x =>
 T.new [.slice none 0 0,.int .u32 0] 94 fun y =>
 T.ap y [.slice t u v,.int .u32 w] <|
 T.ae y [.slice 109,.int .u32] fun z A B C =>
 T.ap e [vI 3,.slice none 0 0,.string n,.slice z A B,.int .u32 C,vI 0] <|
 T.ae e yT fun D E F G H I J K L M =>
 T.ret (.tuple #[.agg #[vI D,.slice E F G,.string H,.slice I J K,.int .u32 L,vI M],vI (-1:Int),vI x])))
 (cond ((ByteArray.toList a)==[({ toBitVec:=103#8 }),({ toBitVec:=108#8 }),({ toBitVec:=111#8 }),({ toBitVec:=98#8 }),({ toBitVec:=97#8 }),({ toBitVec:=108#8 })])
 (T.need (((0:Int)≤(0:Int))∧((0:Int)<(c:Int))) <|
 T.au b fun j =>
 T.ae j [.slice 178] fun k l m =>
 T.call Tryz.prog 129 [.slice k l m] true [(false,[.string]),(false,[.int .i64])] fun n o =>
 T.ap e [vI 4,.slice none 0 0,.string n,.slice none 0 0,.int .u32 0,vI 0] <|
 T.ae e yT fun p q r s t u v w x y =>
 T.ret (.tuple #[.agg #[vI p,.slice q r s,.string t,.slice u v w,.int .u32 x,vI y],vI (-1:Int),vI o]))
 (T.need (((0:Int)≤(0:Int))∧((0:Int)<(c:Int))) <|
 T.au b fun j =>
 T.ae j [.slice 178] fun k l m =>
 cond ((l:Int)==(1:Int))
 (T.need (((0:Int)≤(0:Int))∧((0:Int)<(c:Int))) <|
 T.au b fun n =>
 T.ae n [.slice 178] fun o p q =>
 T.need (((0:Int)≤(0:Int))∧((0:Int)<(p:Int))) <|
 T.au o fun r =>
 T.ae r [.int .i64] fun s =>
 cond (s==(1:Int))
 (T.need (((0:Int)≤(0:Int))∧((0:Int)<(c:Int))) <|
 T.au b fun t =>
 T.ae t [.slice 178] fun u v w =>
 T.need (((0:Int)≤(0:Int))∧((0:Int)<(v:Int))) <|
 T.au u fun x =>
 T.ae (x.add 1) [.string] fun y =>
 cond ((ByteArray.toList y)==[({ toBitVec:=116#8 }),({ toBitVec:=101#8 }),({ toBitVec:=120#8 }),({ toBitVec:=116#8 })])
 (T.ap e [vI 5,.slice none 0 0,.string ⟨#[]⟩,.slice none 0 0,.int .u32 0,vI 0] <|
 T.ae e yT fun z A B C D E F G H I =>
 T.ret (.tuple #[.agg #[vI z,.slice A B C,.string D,.slice E F G,.int .u32 H,vI I],vI (-1:Int),vI 0]))
 (cond ((ByteArray.toList y)==[({ toBitVec:=100#8 }),({ toBitVec:=97#8 }),({ toBitVec:=116#8 }),({ toBitVec:=97#8 })])
 (T.ap e [vI 5,.slice none 0 0,.string ⟨#[]⟩,.slice none 0 0,.int .u32 0,vI 1] <|
 T.ae e yT fun z A B C D E F G H I =>
 T.ret (.tuple #[.agg #[vI z,.slice A B C,.string D,.slice E F G,.int .u32 H,vI I],vI (-1:Int),vI 0]))
 (T.ap e [vI 0,.slice none 0 0,.string ⟨#[]⟩,.slice none 0 0,.int .u32 0,vI 0] <|
 T.ae e yT fun z A B C D E F G H I =>
 T.ret (.tuple #[.agg #[vI z,.slice A B C,.string D,.slice E F G,.int .u32 H,vI I],vI (-1:Int),vI 20]))))
 (T.ap e [vI 0,.slice none 0 0,.string ⟨#[]⟩,.slice none 0 0,.int .u32 0,vI 0] <|
 T.ae e yT fun t u v w x y z A B C =>
 T.ret (.tuple #[.agg #[vI t,.slice u v w,.string x,.slice y z A,.int .u32 B,vI C],vI (-1:Int),vI 20])))
 (T.ap e [vI 0,.slice none 0 0,.string ⟨#[]⟩,.slice none 0 0,.int .u32 0,vI 0] <|
 T.ae e yT fun n o p q r s t u v w =>
 T.ret (.tuple #[.agg #[vI n,.slice o p q,.string r,.slice s t u,.int .u32 v,vI w],vI (-1:Int),vI 20])))))))))
theorem oJ (a:ByteArray) (b:Option Addr) (c d:Nat):aX Tryz.prog [1004] Tryz.f100 [.string a,.slice b c d]=ki a b c d:=by kernel_rfl
end Go.Sx
