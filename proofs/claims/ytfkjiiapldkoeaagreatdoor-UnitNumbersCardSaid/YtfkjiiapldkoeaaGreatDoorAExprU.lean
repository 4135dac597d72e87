/- Trees of functions, each checked by the kernel against the code. No condition. -/
import Derived.Test.YtfkjiiapldkoeaaGreatDoorSxF
import Derived.Test.YtfkjiiapldkoeaaGreatDoorProg
import Derived.KernelRfl
set_option linter.unusedVariables false
set_option linter.unusedSimpArgs false
set_option linter.deprecated false
set_option maxRecDepth 100000
namespace Go.Sx
open Go.Proofs
def t_expr_Parse (pp00:Option Addr) (ll00 cc00:Nat):T :=
 T.new [.slice none 0 0,.int .u32 0] 94 <| fun a1 =>
 T.new [.slice pp00 ll00 cc00,vI 0,vI 0] 261 <| fun a2 =>
 T.new [.pointer none] 259 <| fun a3 =>
 T.stores a3 [.pointer (some a2)] <|
 T.new [.nilFunc] 262 <| fun a4 =>
 T.new [.nilFunc] 262 <| fun a5 =>
 T.stores a5 [.func (Fn.func 152) #[] #[.pointer (some a3),.pointer (some a4)]] <|
 T.new [.nilFunc] 262 <| fun a6 =>
 T.stores a6 [.func (Fn.func 157) #[] #[.pointer (some a5),.pointer (some a3)]] <|
 T.stores a4 [.func (Fn.func 158) #[] #[.pointer (some a6),.pointer (some a3)]] <|
 T.loads a4 [.func #[] #[94] false] <| fun (v7:Value) =>
 T.callv Tryz.prog v7 [] false [(true,[.slice 109,.int .u32])] <| fun p8 l9 l10 n11 =>
 T.new [.slice none 0 0,.int .u32 0] 94 <| fun a12 =>
 T.stores a12 [.slice p8 l9 l10,.int .u32 n11] <|
 T.loads a3 [.pointer 261] <| fun p13 =>
 T.osome p13 <| fun a14 =>
 T.loads a14 [.slice 178] <| fun p15 l16 l17 =>
 cond (decide ((l16:Int)>(0:Int)))
 (T.loads a3 [.pointer 261] <| fun p18 =>
 T.call Tryz.prog 154 [.pointer p18,vI 20] true [] <| T.loads a3 [.pointer 261] <| fun p19 =>
 T.osome p19 <| fun a20 =>
 T.loads (a20.add 2) [.int .i64] <| fun n21 =>
 cond (n21 != (0:Int))
 (T.loads a3 [.pointer 261] <| fun p22 =>
 T.osome p22 <| fun a23 =>
 T.loads (a23.add 2) [.int .i64] <| fun n24 =>
 T.stores a1 [.slice none 0 0,.int .u32 0] <|
 T.stable [((a23.add 2),[vI n24]),(a3,[.pointer p22])] <|
 T.loads a1 [.slice 109,.int .u32] <| fun p25 l26 l27 n28 =>
 T.ret (.tuple #[.agg #[.slice p25 l26 l27,.int .u32 n28],vI n24]))
 (T.loads a12 [.slice 109,.int .u32] <| fun p22 l23 l24 n25 =>
 T.stores a1 [.slice p22 l23 l24,.int .u32 n25] <|
 T.loads a1 [.slice 109,.int .u32] <| fun p26 l27 l28 n29 =>
 T.ret (.tuple #[.agg #[.slice p26 l27 l28,.int .u32 n29],vI 0])))
 (T.loads a3 [.pointer 261] <| fun p18 =>
 T.osome p18 <| fun a19 =>
 T.loads (a19.add 2) [.int .i64] <| fun n20 =>
 cond (n20 != (0:Int))
 (T.loads a3 [.pointer 261] <| fun p21 =>
 T.osome p21 <| fun a22 =>
 T.loads (a22.add 2) [.int .i64] <| fun n23 =>
 T.stores a1 [.slice none 0 0,.int .u32 0] <|
 T.stable [((a22.add 2),[vI n23]),(a3,[.pointer p21])] <|
 T.loads a1 [.slice 109,.int .u32] <| fun p24 l25 l26 n27 =>
 T.ret (.tuple #[.agg #[.slice p24 l25 l26,.int .u32 n27],vI n23]))
 (T.loads a12 [.slice 109,.int .u32] <| fun p21 l22 l23 n24 =>
 T.stores a1 [.slice p21 l22 l23,.int .u32 n24] <|
 T.loads a1 [.slice 109,.int .u32] <| fun p25 l26 l27 n28 =>
 T.ret (.tuple #[.agg #[.slice p25 l26 l27,.int .u32 n28],vI 0])))
theorem t_expr_Parse_eq (pp00:Option Addr) (ll00 cc00:Nat):xfun Tryz.prog [] Tryz.f130 [.slice pp00 ll00 cc00]=t_expr_Parse pp00 ll00 cc00:=by kernel_rfl
def t_expr_Parse_1_factor (a:Addr) (b:Addr):T :=
 T.new [.slice none 0 0,.int .u32 0] 94 <| fun a1 =>
 T.loop [(false,[.int .u32])] [.int .u32 1] <| fun n2 =>
 T.loads a [.pointer 261] <| fun p3 =>
 T.call Tryz.prog 153 [.pointer p3,.string ⟨#[45]⟩] false [(false,[.bool])] <| fun b4 =>
 cond b4
 (T.again 0 [.int .u32 (IntKind.wrap .u32 ((0:Int)-n2))])
 (T.join [(false,[.bool])]
 (T.loads a [.pointer 261] <| fun p5 =>
 T.osome p5 <| fun a6 =>
 T.loads (a6.add 2) [.int .i64] <| fun n7 =>
 cond (n7 != (0:Int))
 (T.again 1 [.bool true])
 (T.loads a [.pointer 261] <| fun p8 =>
 T.osome p8 <| fun a9 =>
 T.loads a9 [.slice 178] <| fun p10 l11 l12 =>
 T.again 1 [.bool ((l11:Int)==(0:Int))])) <| fun b5 =>
 cond b5
 (T.loads a [.pointer 261] <| fun p6 =>
 T.call Tryz.prog 154 [.pointer p6,vI 20] true [] <| T.stores a1 [.slice none 0 0,.int .u32 0] <|
 T.loads a1 [.slice 109,.int .u32] <| fun p7 l8 l9 n10 =>
 T.ret (.agg #[.slice p7 l8 l9,.int .u32 n10]))
 (T.loads a [.pointer 261] <| fun p6 =>
 T.osome p6 <| fun a7 =>
 T.loads a7 [.slice 178] <| fun p8 l9 l10 =>
 T.need (((0:Int)≤(0:Int))∧((0:Int)<(l9:Int))) <|
 T.osome p8 <| fun a11 =>
 T.loads a11 [.int .i64,.string,.int .u32,.int .i64] <| fun n12 s13 n14 n15 =>
 T.new [vI 0,.string ⟨#[]⟩,.int .u32 0,vI 0] 178 <| fun a16 =>
 T.stores a16 [vI n12,.string s13,.int .u32 n14,vI n15] <|
 T.loads (a16.add 1) [.string] <| fun s17 =>
 T.call Tryz.prog 81 [.string s17] true [(false,[.int .i64]),(false,[.bool]),(false,[.bool])] <| fun n18 b19 b20 =>
 T.new [.slice none 0 0,.int .u32 0] 94 <| fun a21 =>
 T.join []
 (T.join [(false,[.bool])]
 (T.loads a16 [.int .i64] <| fun n22 =>
 cond (n22==(1:Int))
 (T.again 2 [.bool b20])
 (T.again 2 [.bool false])) <| fun b22 =>
 cond b22
 (T.loads a [.pointer 261] <| fun p23 =>
 T.call Tryz.prog 154 [.pointer p23,vI 20] true [] <| T.again 1 [])
 (T.loads a16 [.int .i64] <| fun n23 =>
 cond (n23==(1:Int))
 (T.loads (a16.add 1) [.string] <| fun s24 =>
 T.call Tryz.prog 155 [.string s24] false [(true,[.slice 109,.int .u32])] <| fun p25 l26 l27 n28 =>
 T.stores a21 [.slice p25 l26 l27,.int .u32 n28] <|
 T.loads (a21.add 1) [.int .u32] <| fun n29 =>
 T.loads (a16.add 2) [.int .u32] <| fun n30 =>
 T.stores (a21.add 1) [.int .u32 (IntKind.wrap .u32 (n29+n30))] <|
 T.loads a [.pointer 261] <| fun p31 =>
 T.loads a [.pointer 261] <| fun p32 =>
 T.osome p32 <| fun a33 =>
 T.loads a33 [.slice 178] <| fun p34 l35 l36 =>
 T.need (((0:Int)≤(1:Int))∧(((1:Int)≤(l35:Int))∧((l35:Int)≤(l36:Int)))) <|
 T.osome p31 <| fun a37 =>
 T.stores a37 [.slice (if (l36=1) then p34 else (Option.map (fun a=>Addr.add a 4) p34)) ((Int.toNat (l35:Int))-1) (l36-1)] <|
 T.again 1 [])
 (T.loads a16 [.int .i64] <| fun n24 =>
 cond (n24==(2:Int))
 (T.loads (a21.add 1) [.int .u32] <| fun n25 =>
 T.loads (a16.add 2) [.int .u32] <| fun n26 =>
 T.stores (a21.add 1) [.int .u32 (IntKind.wrap .u32 (n25+n26))] <|
 T.loads a [.pointer 261] <| fun p27 =>
 T.loads a [.pointer 261] <| fun p28 =>
 T.osome p28 <| fun a29 =>
 T.loads a29 [.slice 178] <| fun p30 l31 l32 =>
 T.need (((0:Int)≤(1:Int))∧(((1:Int)≤(l31:Int))∧((l31:Int)≤(l32:Int)))) <|
 T.osome p27 <| fun a33 =>
 T.stores a33 [.slice (if (l32=1) then p30 else (Option.map (fun a=>Addr.add a 4) p30)) ((Int.toNat (l31:Int))-1) (l32-1)] <|
 T.again 1 [])
 (T.loads a [.pointer 261] <| fun p25 =>
 T.call Tryz.prog 153 [.pointer p25,.string ⟨#[40]⟩] false [(false,[.bool])] <| fun b26 =>
 cond b26
 (T.loads a [.pointer 261] <| fun p27 =>
 T.osome p27 <| fun a28 =>
 T.loads (a28.add 1) [.int .i64] <| fun n29 =>
 T.osome p27 <| fun a30 =>
 T.stores (a30.add 1) [vI (IntKind.wrap .i64 (n29+(1:Int)))] <|
 T.loads a [.pointer 261] <| fun p31 =>
 T.osome p31 <| fun a32 =>
 T.loads (a32.add 1) [.int .i64] <| fun n33 =>
 cond (decide (n33>(32:Int)))
 (T.loads a [.pointer 261] <| fun p34 =>
 T.call Tryz.prog 154 [.pointer p34,vI 21] true [] <| T.again 1 [])
 (T.loads b [.func #[] #[94] false] <| fun (v34:Value) =>
 T.callv Tryz.prog v34 [] false [(true,[.slice 109,.int .u32])] <| fun p35 l36 l37 n38 =>
 T.stores a21 [.slice p35 l36 l37,.int .u32 n38] <|
 T.loads a [.pointer 261] <| fun p39 =>
 T.osome p39 <| fun a40 =>
 T.loads (a40.add 1) [.int .i64] <| fun n41 =>
 T.osome p39 <| fun a42 =>
 T.stores (a42.add 1) [vI (IntKind.wrap .i64 (n41-(1:Int)))] <|
 T.loads a [.pointer 261] <| fun p43 =>
 T.call Tryz.prog 153 [.pointer p43,.string ⟨#[41]⟩] false [(false,[.bool])] <| fun b44 =>
 cond (!b44)
 (T.loads a [.pointer 261] <| fun p45 =>
 T.call Tryz.prog 154 [.pointer p45,vI 20] true [] <| T.again 1 [])
 (T.again 1 [])))
 (T.loads a [.pointer 261] <| fun p27 =>
 T.call Tryz.prog 154 [.pointer p27,vI 20] true [] <| T.again 1 []))))) <| T.loads a21 [.slice 109,.int .u32] <| fun p22 l23 l24 n25 =>
 T.call Tryz.prog 156 [.agg #[.slice p22 l23 l24,.int .u32 n25],.int .u32 n2] false [(true,[.slice 109,.int .u32])] <| fun p26 l27 l28 n29 =>
 T.stores a1 [.slice p26 l27 l28,.int .u32 n29] <|
 T.loads a1 [.slice 109,.int .u32] <| fun p30 l31 l32 n33 =>
 T.ret (.agg #[.slice p30 l31 l32,.int .u32 n33])))
theorem t_expr_Parse_1_factor_eq (a:Addr) (b:Addr):xfun Tryz.prog [4,10,1026] Tryz.f152 [.pointer (some a),.pointer (some b)]=t_expr_Parse_1_factor a b:=by kernel_rfl
def t_expr_Parse_2_part (a:Addr) (b:Addr):T :=
 T.new [.slice none 0 0,.int .u32 0] 94 <| fun a1 =>
 T.loads a [.func #[] #[94] false] <| fun (v2:Value) =>
 T.callv Tryz.prog v2 [] false [(true,[.slice 109,.int .u32])] <| fun p3 l4 l5 n6 =>
 T.new [.slice none 0 0,.int .u32 0] 94 <| fun a7 =>
 T.stores a7 [.slice p3 l4 l5,.int .u32 n6] <|
 T.loop [] [] <| T.loads b [.pointer 261] <| fun p8 =>
 T.call Tryz.prog 153 [.pointer p8,.string ⟨#[42]⟩] false [(false,[.bool])] <| fun b9 =>
 cond b9
 (T.loads a [.func #[] #[94] false] <| fun (v10:Value) =>
 T.callv Tryz.prog v10 [] false [(true,[.slice 109,.int .u32])] <| fun p11 l12 l13 n14 =>
 T.new [.slice none 0 0,.int .u32 0] 94 <| fun a15 =>
 T.stores a15 [.slice p11 l12 l13,.int .u32 n14] <|
 T.loads b [.pointer 261] <| fun p16 =>
 T.osome p16 <| fun a17 =>
 T.loads (a17.add 2) [.int .i64] <| fun n18 =>
 cond (n18 != (0:Int))
 (T.again 0 [])
 (T.join [(false,[.bool])]
 (T.loads a7 [.slice 109] <| fun p19 l20 l21 =>
 cond (decide ((l20:Int)>(0:Int)))
 (T.loads a15 [.slice 109] <| fun p22 l23 l24 =>
 T.again 1 [.bool (decide ((l23:Int)>(0:Int)))])
 (T.again 1 [.bool false])) <| fun b19 =>
 cond b19
 (T.loads b [.pointer 261] <| fun p20 =>
 T.call Tryz.prog 154 [.pointer p20,vI 21] true [] <| T.again 0 [])
 (T.loads a15 [.slice 109] <| fun p20 l21 l22 =>
 cond (decide ((l21:Int)>(0:Int)))
 (T.loads a15 [.slice 109,.int .u32] <| fun p23 l24 l25 n26 =>
 T.loads (a7.add 1) [.int .u32] <| fun n27 =>
 T.call Tryz.prog 156 [.agg #[.slice p23 l24 l25,.int .u32 n26],.int .u32 n27] false [(true,[.slice 109,.int .u32])] <| fun p28 l29 l30 n31 =>
 T.stores a7 [.slice p28 l29 l30,.int .u32 n31] <|
 T.again 0 [])
 (T.loads a7 [.slice 109,.int .u32] <| fun p23 l24 l25 n26 =>
 T.loads (a15.add 1) [.int .u32] <| fun n27 =>
 T.call Tryz.prog 156 [.agg #[.slice p23 l24 l25,.int .u32 n26],.int .u32 n27] false [(true,[.slice 109,.int .u32])] <| fun p28 l29 l30 n31 =>
 T.stores a7 [.slice p28 l29 l30,.int .u32 n31] <|
 T.again 0 []))))
 (T.loads a7 [.slice 109,.int .u32] <| fun p10 l11 l12 n13 =>
 T.stores a1 [.slice p10 l11 l12,.int .u32 n13] <|
 T.loads a1 [.slice 109,.int .u32] <| fun p14 l15 l16 n17 =>
 T.ret (.agg #[.slice p14 l15 l16,.int .u32 n17]))
theorem t_expr_Parse_2_part_eq (a:Addr) (b:Addr):xfun Tryz.prog [6] Tryz.f157 [.pointer (some a),.pointer (some b)]=t_expr_Parse_2_part a b:=by kernel_rfl
def t_expr_Parse_3_sum (a:Addr) (b:Addr):T :=
 T.new [.slice none 0 0,.int .u32 0] 94 <| fun a1 =>
 T.loads a [.func #[] #[94] false] <| fun (v2:Value) =>
 T.callv Tryz.prog v2 [] false [(true,[.slice 109,.int .u32])] <| fun p3 l4 l5 n6 =>
 T.new [.slice none 0 0,.int .u32 0] 94 <| fun a7 =>
 T.stores a7 [.slice p3 l4 l5,.int .u32 n6] <|
 T.loop [] [] <| T.loads b [.pointer 261] <| fun p8 =>
 T.osome p8 <| fun a9 =>
 T.loads (a9.add 2) [.int .i64] <| fun n10 =>
 cond (n10==(0:Int))
 (T.loads b [.pointer 261] <| fun p11 =>
 T.call Tryz.prog 153 [.pointer p11,.string ⟨#[43]⟩] false [(false,[.bool])] <| fun b12 =>
 cond b12
 (T.loads a7 [.slice 109,.int .u32] <| fun p13 l14 l15 n16 =>
 T.loads a [.func #[] #[94] false] <| fun (v17:Value) =>
 T.callv Tryz.prog v17 [] false [(true,[.slice 109,.int .u32])] <| fun p18 l19 l20 n21 =>
 T.stable [(a7,[.slice p13 l14 l15,.int .u32 n16])] <|
 T.call Tryz.prog 159 [.agg #[.slice p13 l14 l15,.int .u32 n16],.agg #[.slice p18 l19 l20,.int .u32 n21]] false [(true,[.slice 109,.int .u32])] <| fun p22 l23 l24 n25 =>
 T.stable [(a,[v17])] <|
 T.stores a7 [.slice p22 l23 l24,.int .u32 n25] <|
 T.again 0 [])
 (T.loads b [.pointer 261] <| fun p13 =>
 T.call Tryz.prog 153 [.pointer p13,.string ⟨#[45]⟩] false [(false,[.bool])] <| fun b14 =>
 cond b14
 (T.loads a7 [.slice 109,.int .u32] <| fun p15 l16 l17 n18 =>
 T.loads a [.func #[] #[94] false] <| fun (v19:Value) =>
 T.callv Tryz.prog v19 [] false [(true,[.slice 109,.int .u32])] <| fun p20 l21 l22 n23 =>
 T.stable [(a7,[.slice p15 l16 l17,.int .u32 n18])] <|
 T.call Tryz.prog 156 [.agg #[.slice p20 l21 l22,.int .u32 n23],.int .u32 4294967295] false [(true,[.slice 109,.int .u32])] <| fun p24 l25 l26 n27 =>
 T.stable [(a,[v19]),(a7,[.slice p15 l16 l17,.int .u32 n18])] <|
 T.call Tryz.prog 159 [.agg #[.slice p15 l16 l17,.int .u32 n18],.agg #[.slice p24 l25 l26,.int .u32 n27]] false [(true,[.slice 109,.int .u32])] <| fun p28 l29 l30 n31 =>
 T.stable [(a,[v19])] <|
 T.stores a7 [.slice p28 l29 l30,.int .u32 n31] <|
 T.again 0 [])
 (T.loads a7 [.slice 109,.int .u32] <| fun p15 l16 l17 n18 =>
 T.stores a1 [.slice p15 l16 l17,.int .u32 n18] <|
 T.loads a1 [.slice 109,.int .u32] <| fun p19 l20 l21 n22 =>
 T.ret (.agg #[.slice p19 l20 l21,.int .u32 n22]))))
 (T.loads a7 [.slice 109,.int .u32] <| fun p11 l12 l13 n14 =>
 T.stores a1 [.slice p11 l12 l13,.int .u32 n14] <|
 T.loads a1 [.slice 109,.int .u32] <| fun p15 l16 l17 n18 =>
 T.ret (.agg #[.slice p15 l16 l17,.int .u32 n18]))
theorem t_expr_Parse_3_sum_eq (a:Addr) (b:Addr):xfun Tryz.prog [] Tryz.f158 [.pointer (some a),.pointer (some b)]=t_expr_Parse_3_sum a b:=by kernel_rfl
end Go.Sx
