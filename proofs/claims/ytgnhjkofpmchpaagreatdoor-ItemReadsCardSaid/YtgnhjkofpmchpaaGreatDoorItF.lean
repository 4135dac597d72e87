/- Trees of functions, each checked by the kernel against the code. No condition. -/
import Derived.Test.YtgnhjkofpmchpaaGreatDoorSxF
import Derived.Test.YtgnhjkofpmchpaaGreatDoorProg
import Derived.KernelRfl
set_option linter.unusedVariables false
set_option linter.unusedSimpArgs false
set_option linter.deprecated false
set_option maxRecDepth 100000
namespace Go.Sx
open Go.Proofs
def t_spandrellaw8_ItemReads (s0 : ByteArray) (n1 : Int) : T :=
 T.call Tryz.prog 9 [.string s0, .int .i64 (500 : Int)] false [(false, [.string])] <| fun s2 =>
 T.call Tryz.prog 8 [.string s2, .int .i64 n1] true [(true, [.int .i64, .slice 54, .string, .slice 50, .int .u32, .int .i64]), (false, [.int .i64]), (true, [.int .i64, .slice 54, .string, .slice 50, .int .u32, .int .i64]), (false, [.int .i64]), (false, [.bool])] <| fun n3 p4 l5 l6 s7 p8 l9 l10 n11 n12 n13 n14 p15 l16 l17 s18 p19 l20 l21 n22 n23 n24 b25 =>
 T.new [.int .i64 (0 : Int), .slice none 0 0, .string ⟨#[]⟩, .slice none 0 0, .int .u32 (0 : Int), .int .i64 (0 : Int)] 28 <| fun a26 =>
 T.new [.int .i64 (0 : Int), .slice none 0 0, .string ⟨#[]⟩, .slice none 0 0, .int .u32 (0 : Int), .int .i64 (0 : Int)] 30 <| fun a27 =>
 T.stores a26 [.int .i64 n3, .slice p4 l5 l6, .string s7, .slice p8 l9 l10, .int .u32 n11, .int .i64 n12] <|
 T.stores a27 [.int .i64 n14, .slice p15 l16 l17, .string s18, .slice p19 l20 l21, .int .u32 n22, .int .i64 n23] <|
 cond b25
 (T.loads a26 [.int .i64, .slice 54, .string, .slice 50, .int .u32, .int .i64] <| fun n28 p29 l30 l31 s32 p33 l34 l35 n36 n37 =>
 T.loads a27 [.int .i64, .slice 54, .string, .slice 50, .int .u32, .int .i64] <| fun n38 p39 l40 l41 s42 p43 l44 l45 n46 n47 =>
 T.call Tryz.prog 10 [.agg #[.int .i64 n28, .slice p29 l30 l31, .string s32, .slice p33 l34 l35, .int .u32 n36, .int .i64 n37], .agg #[.int .i64 n38, .slice p39 l40 l41, .string s42, .slice p43 l44 l45, .int .u32 n46, .int .i64 n47]] false [(false, [.bool])] <| fun b48 =>
 cond b48
 (cond (n13 == n24)
 (T.call Tryz.prog 11 [] false [(false, [.bool])] <| fun b49 =>
 T.ret (.bool b49))
 (T.ret (.bool false)))
 (T.ret (.bool false)))
 (T.ret (.bool false))
theorem t_spandrellaw8_ItemReads_eq (s0 : ByteArray) (n1 : Int) : xfun Tryz.prog [] Tryz.f3 [.string s0, .int .i64 n1] = t_spandrellaw8_ItemReads s0 n1 := by kernel_rfl
end Go.Sx
