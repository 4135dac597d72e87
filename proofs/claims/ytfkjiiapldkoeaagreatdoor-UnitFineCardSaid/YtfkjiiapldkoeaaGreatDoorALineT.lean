/- Trees of functions, each checked by the kernel against the code. No condition. -/
import Derived.Test.YtfkjiiapldkoeaaGreatDoorSxF
import Derived.Test.YtfkjiiapldkoeaaGreatDoorProg
import Derived.KernelRfl
set_option linter.unusedVariables false
set_option linter.unusedSimpArgs false
set_option linter.deprecated false
set_option maxRecDepth 100000
namespace Go.Sx
open Go.Proofs
def rO (a:ByteArray):T :=
 T.new [.string ⟨#[]⟩,.string ⟨#[]⟩,.slice none 0 0] 130 fun b =>
 T.call Tryz.prog 95 [.string a] true [(false,[.slice 178]),(false,[.int .i64]),(false,[.int .i64])] fun c d e f g =>
 cond (g != (0:Int))
 (T.ap b [.string ⟨#[]⟩,.string ⟨#[]⟩,.slice none 0 0] <|
 T.ae b [.string,.string,.slice 174] fun h i j k l =>
 T.ret (.tuple #[.agg #[.string h,.string i,.slice j k l],vI f,vI g]))
 (T.new [.string ⟨#[]⟩,.string ⟨#[]⟩,.slice none 0 0] 130 fun h =>
 T.join [(false,[.slice 0])]
 (cond (decide ((d:Int)>(1:Int)))
 (T.need (((0:Int)≤(0:Int))∧((0:Int)<(d:Int))) <|
 T.au c fun i =>
 T.ae i [.int .i64] fun j =>
 cond (j==(1:Int))
 (T.need (((0:Int)≤(1:Int))∧((1:Int)<(d:Int))) <|
 T.au c fun k =>
 T.ae (k.add 4) [.int .i64,.string,.int .u32,.int .i64] fun l m n o =>
 T.call Tryz.prog 96 [.agg #[vI l,.string m,.int .u32 n,vI o],.string ⟨#[58]⟩] false [(false,[.bool])] fun p =>
 cond p
 (T.need (((0:Int)≤(0:Int))∧((0:Int)<(d:Int))) <|
 T.au c fun q =>
 T.ae (q.add 1) [.string] fun r =>
 T.ap h [.string r] <|
 T.need (((0:Int)≤(2:Int))∧(((2:Int)≤(d:Int))∧((d:Int)≤(e:Int)))) <|
 T.again 0 [.slice (if (e=2) then c else (Option.map (fun s=>Addr.add s 8) c)) ((Int.toNat (d:Int))-2) (e-2)])
 (T.again 0 [.slice c d e]))
 (T.again 0 [.slice c d e]))
 (T.again 0 [.slice c d e])) fun i j k =>
 cond ((j:Int)==(0:Int))
 (T.ae h [.string,.string,.slice 174] fun l m n o p =>
 T.ap b [.string l,.string m,.slice n o p] <|
 T.ae b [.string,.string,.slice 174] fun q r s t u =>
 T.ret (.tuple #[.agg #[.string q,.string r,.slice s t u],vI 0,vI 0]))
 (T.need (((0:Int)≤(0:Int))∧((0:Int)<(j:Int))) <|
 T.au i fun l =>
 T.ae l [.int .i64] fun m =>
 cond (m != (1:Int))
 (T.need (((0:Int)≤(0:Int))∧((0:Int)<(j:Int))) <|
 T.au i fun n =>
 T.ae (n.add 3) [.int .i64] fun o =>
 T.ap b [.string ⟨#[]⟩,.string ⟨#[]⟩,.slice none 0 0] <|
 T.aR [((n.add 3),[vI o])] <|
 T.ae b [.string,.string,.slice 174] fun p q r s t =>
 T.ret (.tuple #[.agg #[.string p,.string q,.slice r s t],vI o,vI 20]))
 (T.need (((0:Int)≤(0:Int))∧((0:Int)<(j:Int))) <|
 T.au i fun n =>
 T.ae (n.add 1) [.string] fun o =>
 T.ap (h.add 1) [.string o] <|
 T.need (((0:Int)≤(1:Int))∧(((1:Int)≤(j:Int))∧((j:Int)≤(k:Int)))) <|
 T.call Tryz.prog 97 [.string a,.slice (if (k=1) then i else (Option.map (fun p=>Addr.add p 4) i)) ((Int.toNat (j:Int))-1) (k-1)] true [(false,[.slice 174]),(false,[.int .i64]),(false,[.int .i64])] fun p q r s t =>
 cond (t != (0:Int))
 (T.ap b [.string ⟨#[]⟩,.string ⟨#[]⟩,.slice none 0 0] <|
 T.ae b [.string,.string,.slice 174] fun u v w x y =>
 T.ret (.tuple #[.agg #[.string u,.string v,.slice w x y],vI s,vI t]))
 (T.ap (h.add 2) [.slice p q r] <|
 T.ae h [.string,.string,.slice 174] fun u v w x y =>
 T.ap b [.string u,.string v,.slice w x y] <|
 T.ae b [.string,.string,.slice 174] fun z A B C D =>
 T.ret (.tuple #[.agg #[.string z,.string A,.slice B C D],vI 0,vI 0])))))
theorem tS (a:ByteArray):aX Tryz.prog [1008] Tryz.f64 [.string a]=rO a:=by kernel_rfl
def kC (a:ByteArray) (b:Option Addr) (c d:Nat):T :=
 cond ((c:Int)==(0:Int))
 (T.ret (.tuple #[.slice none 0 0,vI 0,vI 0]))
 (T.aY Tryz.prog (Instr.buildSlice 128 1 #[(0,.slice none 0 0)]) false [(false,[.slice 0])] fun e f g =>
 T.loop [(false,[.slice 0]),(false,[.int .i64]),(false,[.int .i64]),(false,[.slice 0]),(false,[.int .i64])] [.slice none 0 0,vI 0,vI 0,.slice e f g,vI 0] fun h i j k l m n o p =>
 cond (decide (p<(c:Int)))
 (T.need (((0:Int)≤p)∧(p<(c:Int))) <|
 T.au b fun q =>
 T.ae (q.add ((Int.toNat p)*4)) [.int .i64,.string,.int .u32,.int .i64] fun r s t u =>
 T.new [vI 0,.string ⟨#[]⟩,.int .u32 0,vI 0] 178 fun v =>
 T.ap v [vI r,.string s,.int .u32 t,vI u] <|
 T.join [(false,[.bool])]
 (T.ae v [.int .i64,.string,.int .u32,.int .i64] fun w x y z =>
 T.call Tryz.prog 96 [.agg #[vI w,.string x,.int .u32 y,vI z],.string ⟨#[58]⟩] false [(false,[.bool])] fun A =>
 cond A
 (T.again 1 [.bool true])
 (T.ae v [.int .i64,.string,.int .u32,.int .i64] fun B C D E =>
 T.call Tryz.prog 96 [.agg #[vI B,.string C,.int .u32 D,vI E],.string ⟨#[44]⟩] false [(false,[.bool])] fun F =>
 cond F
 (T.need (((0:Int)≤(IntKind.wrap .i64 ((n:Int)-(1:Int))))∧((IntKind.wrap .i64 ((n:Int)-(1:Int)))<(n:Int))) <|
 T.au m fun G =>
 T.ae (G.add ((Int.toNat (IntKind.wrap .i64 ((n:Int)-(1:Int))))*1)) [.slice 178] fun H I J =>
 T.again 1 [.bool ((I:Int)==(0:Int))])
 (T.again 1 [.bool false]))) fun w =>
 cond w
 (T.ae (v.add 3) [.int .i64] fun x =>
 T.aR [((v.add 3),[vI x])] <|
 T.ret (.tuple #[.slice none 0 0,vI x,vI 20]))
 (T.ae v [.int .i64,.string,.int .u32,.int .i64] fun x y z A =>
 T.call Tryz.prog 96 [.agg #[vI x,.string y,.int .u32 z,vI A],.string ⟨#[44]⟩] false [(false,[.bool])] fun B =>
 cond B
 (T.aY Tryz.prog (Instr.buildSlice 128 1 #[(0,.slice none 0 0)]) false [(false,[.slice 0])] fun C D E =>
 T.aY Tryz.prog (Builtin.append_ #[128,128] 128 #[.slice m n o,.slice C D E]) false [(false,[.slice 0])] fun F G H =>
 T.again 0 [.slice h i j,vI k,vI l,.slice F G H,vI (IntKind.wrap .i64 (p+(1:Int)))])
 (T.need (((0:Int)≤(IntKind.wrap .i64 ((n:Int)-(1:Int))))∧((IntKind.wrap .i64 ((n:Int)-(1:Int)))<(n:Int))) <|
 T.au m fun C =>
 T.ae (C.add ((Int.toNat (IntKind.wrap .i64 ((n:Int)-(1:Int))))*1)) [.slice 178] fun D E F =>
 T.ae v [.int .i64,.string,.int .u32,.int .i64] fun G H I J =>
 T.aY Tryz.prog (Instr.buildSlice 174 1 #[(0,.agg #[vI G,.string H,.int .u32 I,vI J])]) false [(false,[.slice 0])] fun K L M =>
 T.aR [((C.add ((Int.toNat (IntKind.wrap .i64 ((n:Int)-(1:Int))))*1)),[.slice D E F])] <|
 T.aY Tryz.prog (Builtin.append_ #[174,174] 174 #[.slice D E F,.slice K L M]) false [(false,[.slice 0])] fun N O P =>
 T.aR [(v,[vI G,.string H,.int .u32 I,vI J])] <|
 T.need (((0:Int)≤(IntKind.wrap .i64 ((n:Int)-(1:Int))))∧((IntKind.wrap .i64 ((n:Int)-(1:Int)))<(n:Int))) <|
 T.au m fun Q =>
 T.ap (Q.add ((Int.toNat (IntKind.wrap .i64 ((n:Int)-(1:Int))))*1)) [.slice N O P] <|
 T.again 0 [.slice h i j,vI k,vI l,.slice m n o,vI (IntKind.wrap .i64 (p+(1:Int)))])))
 (T.need (((0:Int)≤(IntKind.wrap .i64 ((n:Int)-(1:Int))))∧((IntKind.wrap .i64 ((n:Int)-(1:Int)))<(n:Int))) <|
 T.au m fun q =>
 T.ae (q.add ((Int.toNat (IntKind.wrap .i64 ((n:Int)-(1:Int))))*1)) [.slice 178] fun r s t =>
 cond ((s:Int)==(0:Int))
 (T.ret (.tuple #[.slice none 0 0,vI (a.size:Int),vI 20]))
 (T.ret (.tuple #[.slice m n o,vI 0,vI 0]))))
theorem oV (a:ByteArray) (b:Option Addr) (c d:Nat):aX Tryz.prog [9] Tryz.f97 [.string a,.slice b c d]=kC a b c d:=by kernel_rfl
def xX (a:Int) (b:ByteArray) (c:Int) (d:Int) (e:ByteArray):T :=
 T.new [vI a,.string b,.int .u32 c,vI d] 178 fun f =>
 T.ae f [.int .i64] fun g =>
 cond (g==(3:Int))
 (T.ae (f.add 1) [.string] fun h =>
 T.ret (.bool ((ByteArray.toList h)==(ByteArray.toList e))))
 (T.ret (.bool false))
theorem zj (a:Int) (b:ByteArray) (c:Int) (d:Int) (e:ByteArray):aX Tryz.prog [] Tryz.f96 [.agg #[vI a,.string b,.int .u32 c,vI d],.string e]=xX a b c d e:=by kernel_rfl
end Go.Sx
