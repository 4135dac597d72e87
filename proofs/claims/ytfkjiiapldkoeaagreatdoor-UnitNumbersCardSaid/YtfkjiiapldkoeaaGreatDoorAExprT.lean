/- Trees of functions, each checked by the kernel against the code. No condition. -/
import Derived.Test.YtfkjiiapldkoeaaGreatDoorSxF
import Derived.Test.YtfkjiiapldkoeaaGreatDoorProg
import Derived.KernelRfl
set_option linter.unusedVariables false
set_option linter.unusedSimpArgs false
set_option linter.deprecated false
set_option maxRecDepth 100000
namespace Go.Sx
open Go.Proofs
def t_expr_made (r0:Option Nat) (n1:Int):T :=
 T.new [.slice none 0 0,.int .u32 0] 94 <| fun a2 =>
 T.new [.slice none 0 0,.int .u32 0] 94 <| fun a3 =>
 T.stores a3 [.slice none 0 0,.int .u32 n1] <|
 T.call Tryz.prog 193 [.map r0] false [(false,[.func #[39] #[] false])] <| fun (v4:Value) =>
 T.call Tryz.prog 34 [v4] false [(false,[.slice 9])] <| fun p5 l6 l7 =>
 T.loop [(false,[.int .i64])] [vI 0] <| fun n8 =>
 cond (decide (n8<(l6:Int)))
 (T.need (((0:Int)≤n8)∧(n8<(l6:Int))) <|
 T.osome p5 <| fun a9 =>
 T.loads (a9.add ((Int.toNat n8)*1)) [.string] <| fun s10 =>
 T.sem Tryz.prog (Instr.lookup 286 (.map r0) (.string s10) false) false [(false,[.int .u32])] <| fun n11 =>
 cond (n11 != (0:Int))
 (T.loads a3 [.slice 109] <| fun p12 l13 l14 =>
 T.sem Tryz.prog (Instr.lookup 286 (.map r0) (.string s10) false) false [(false,[.int .u32])] <| fun n15 =>
 T.sem Tryz.prog (Instr.buildSlice 91 1 #[(0,.agg #[.string s10,.int .u32 n15])]) false [(false,[.slice 0])] <| fun p16 l17 l18 =>
 T.sem Tryz.prog (Builtin.append_ #[91,91] 91 #[.slice p12 l13 l14,.slice p16 l17 l18]) false [(false,[.slice 0])] <| fun p19 l20 l21 =>
 T.stores a3 [.slice p19 l20 l21] <|
 T.again 0 [vI (IntKind.wrap .i64 (n8+(1:Int)))])
 (T.again 0 [vI (IntKind.wrap .i64 (n8+(1:Int)))]))
 (T.loads a3 [.slice 109,.int .u32] <| fun p9 l10 l11 n12 =>
 T.stores a2 [.slice p9 l10 l11,.int .u32 n12] <|
 T.loads a2 [.slice 109,.int .u32] <| fun p13 l14 l15 n16 =>
 T.ret (.agg #[.slice p13 l14 l15,.int .u32 n16]))
theorem t_expr_made_eq (r0:Option Nat) (n1:Int):xfun Tryz.prog [] Tryz.f179 [.map r0,.int .u32 n1]=t_expr_made r0 n1:=by kernel_rfl
def t_expr_Add (pp00:Option Addr) (ll00 cc00:Nat) (n1_0:Int) (pp10:Option Addr) (ll10 cc10:Nat) (n1_1:Int):T :=
 T.new [.slice pp00 ll00 cc00,.int .u32 n1_0] 94 <| fun a2 =>
 T.new [.slice pp10 ll10 cc10,.int .u32 n1_1] 94 <| fun a3 =>
 T.new [.slice none 0 0,.int .u32 0] 94 <| fun a4 =>
 T.sem Tryz.prog (Instr.makeMap 286 none) false [(false,[.map 0 0])] <| fun r5 =>
 T.loads a2 [.slice 109] <| fun p6 l7 l8 =>
 T.loads a3 [.slice 109] <| fun p9 l10 l11 =>
 T.sem Tryz.prog (Instr.buildSlice 288 2 #[(0,.slice p6 l7 l8),(1,.slice p9 l10 l11)]) false [(false,[.slice 0])] <| fun p12 l13 l14 =>
 T.loop [(false,[.int .i64])] [vI 0] <| fun n15 =>
 cond (decide (n15<(l13:Int)))
 (T.need (((0:Int)≤n15)∧(n15<(l13:Int))) <|
 T.osome p12 <| fun a16 =>
 T.loads (a16.add ((Int.toNat n15)*1)) [.slice 109] <| fun p17 l18 l19 =>
 T.loop [(false,[.int .i64])] [vI 0] <| fun n20 =>
 cond (decide (n20<(l18:Int)))
 (T.need (((0:Int)≤n20)∧(n20<(l18:Int))) <|
 T.osome p17 <| fun a21 =>
 T.loads (a21.add ((Int.toNat n20)*2)) [.string,.int .u32] <| fun s22 n23 =>
 T.new [.string ⟨#[]⟩,.int .u32 0] 109 <| fun a24 =>
 T.stores a24 [.string s22,.int .u32 n23] <|
 T.loads a24 [.string] <| fun s25 =>
 T.sem Tryz.prog (Instr.lookup 286 (.map r5) (.string s25) false) false [(false,[.int .u32])] <| fun n26 =>
 T.loads (a24.add 1) [.int .u32] <| fun n27 =>
 T.semU Tryz.prog (Instr.mapUpdate 286 (.map r5) (.string s25) (.int .u32 (IntKind.wrap .u32 (n26+n27)))) <|
 T.again 1 [vI (IntKind.wrap .i64 (n20+(1:Int)))])
 (T.again 0 [vI (IntKind.wrap .i64 (n15+(1:Int)))]))
 (T.loads (a2.add 1) [.int .u32] <| fun n16 =>
 T.loads (a3.add 1) [.int .u32] <| fun n17 =>
 T.call Tryz.prog 179 [.map r5,.int .u32 (IntKind.wrap .u32 (n16+n17))] false [(true,[.slice 109,.int .u32])] <| fun p18 l19 l20 n21 =>
 T.stores a4 [.slice p18 l19 l20,.int .u32 n21] <|
 T.loads a4 [.slice 109,.int .u32] <| fun p22 l23 l24 n25 =>
 T.ret (.agg #[.slice p22 l23 l24,.int .u32 n25]))
theorem t_expr_Add_eq (pp00:Option Addr) (ll00 cc00:Nat) (n1_0:Int) (pp10:Option Addr) (ll10 cc10:Nat) (n1_1:Int):xfun Tryz.prog [] Tryz.f159 [.agg #[.slice pp00 ll00 cc00,.int .u32 n1_0],.agg #[.slice pp10 ll10 cc10,.int .u32 n1_1]]=t_expr_Add pp00 ll00 cc00 n1_0 pp10 ll10 cc10 n1_1:=by kernel_rfl
def t_expr_Times (pp00:Option Addr) (ll00 cc00:Nat) (n1_0:Int) (n1:Int):T :=
 T.new [.slice pp00 ll00 cc00,.int .u32 n1_0] 94 <| fun a2 =>
 T.new [.slice none 0 0,.int .u32 0] 94 <| fun a3 =>
 T.sem Tryz.prog (Instr.makeMap 286 none) false [(false,[.map 0 0])] <| fun r4 =>
 T.loads a2 [.slice 109] <| fun p5 l6 l7 =>
 T.loop [(false,[.int .i64])] [vI 0] <| fun n8 =>
 cond (decide (n8<(l6:Int)))
 (T.need (((0:Int)≤n8)∧(n8<(l6:Int))) <|
 T.osome p5 <| fun a9 =>
 T.loads (a9.add ((Int.toNat n8)*2)) [.string,.int .u32] <| fun s10 n11 =>
 T.new [.string ⟨#[]⟩,.int .u32 0] 109 <| fun a12 =>
 T.stores a12 [.string s10,.int .u32 n11] <|
 T.loads a12 [.string] <| fun s13 =>
 T.sem Tryz.prog (Instr.lookup 286 (.map r4) (.string s13) false) false [(false,[.int .u32])] <| fun n14 =>
 T.loads (a12.add 1) [.int .u32] <| fun n15 =>
 T.semU Tryz.prog (Instr.mapUpdate 286 (.map r4) (.string s13) (.int .u32 (IntKind.wrap .u32 (n14+(IntKind.wrap .u32 (n15*n1)))))) <|
 T.again 0 [vI (IntKind.wrap .i64 (n8+(1:Int)))])
 (T.loads (a2.add 1) [.int .u32] <| fun n9 =>
 T.call Tryz.prog 179 [.map r4,.int .u32 (IntKind.wrap .u32 (n9*n1))] false [(true,[.slice 109,.int .u32])] <| fun p10 l11 l12 n13 =>
 T.stores a3 [.slice p10 l11 l12,.int .u32 n13] <|
 T.loads a3 [.slice 109,.int .u32] <| fun p14 l15 l16 n17 =>
 T.ret (.agg #[.slice p14 l15 l16,.int .u32 n17]))
theorem t_expr_Times_eq (pp00:Option Addr) (ll00 cc00:Nat) (n1_0:Int) (n1:Int):xfun Tryz.prog [] Tryz.f156 [.agg #[.slice pp00 ll00 cc00,.int .u32 n1_0],.int .u32 n1]=t_expr_Times pp00 ll00 cc00 n1_0 n1:=by kernel_rfl
def t_expr_Right (pp00:Option Addr) (ll00 cc00:Nat) (n1_0:Int):T :=
 T.new [.slice pp00 ll00 cc00,.int .u32 n1_0] 94 <| fun a1 =>
 T.loads a1 [.slice 109] <| fun p2 l3 l4 =>
 T.loop [(false,[.bool]),(false,[.int .i64])] [.bool false,vI 0] <| fun b5 n6 =>
 cond (decide (n6<(l3:Int)))
 (T.need (((0:Int)≤n6)∧(n6<(l3:Int))) <|
 T.osome p2 <| fun a7 =>
 T.loads (a7.add ((Int.toNat n6)*2)) [.string,.int .u32] <| fun s8 n9 =>
 T.new [.string ⟨#[]⟩,.int .u32 0] 109 <| fun a10 =>
 T.stores a10 [.string s8,.int .u32 n9] <|
 T.loads (a10.add 1) [.int .u32] <| fun n11 =>
 cond (n11==(0:Int))
 (T.ret (.bool false))
 (T.loads a10 [.string] <| fun s12 =>
 T.call Tryz.prog 45 [.string s12] false [(false,[.bool])] <| fun b13 =>
 T.stable [((a10.add 1),[.int .u32 n11])] <|
 cond (!b13)
 (T.ret (.bool false))
 (cond (decide (n6>(0:Int)))
 (T.loads a10 [.string] <| fun s14 =>
 T.loads a1 [.slice 109] <| fun p15 l16 l17 =>
 T.need (((0:Int)≤(IntKind.wrap .i64 (n6-(1:Int))))∧((IntKind.wrap .i64 (n6-(1:Int)))<(l16:Int))) <|
 T.osome p15 <| fun a18 =>
 T.loads (a18.add ((Int.toNat (IntKind.wrap .i64 (n6-(1:Int))))*2)) [.string] <| fun s19 =>
 cond ((Op.bytesLess (ByteArray.toList s14) (ByteArray.toList s19)) || ((ByteArray.toList s14)==(ByteArray.toList s19)))
 (T.ret (.bool false))
 (T.again 0 [.bool b5,vI (IntKind.wrap .i64 (n6+(1:Int)))]))
 (T.again 0 [.bool b5,vI (IntKind.wrap .i64 (n6+(1:Int)))]))))
 (T.ret (.bool true))
theorem t_expr_Right_eq (pp00:Option Addr) (ll00 cc00:Nat) (n1_0:Int):xfun Tryz.prog [] Tryz.f46 [.agg #[.slice pp00 ll00 cc00,.int .u32 n1_0]]=t_expr_Right pp00 ll00 cc00 n1_0:=by kernel_rfl
def t_expr_Same (pp00:Option Addr) (ll00 cc00:Nat) (n1_0:Int) (pp10:Option Addr) (ll10 cc10:Nat) (n1_1:Int):T :=
 T.new [.slice pp00 ll00 cc00,.int .u32 n1_0] 94 <| fun a2 =>
 T.new [.slice pp10 ll10 cc10,.int .u32 n1_1] 94 <| fun a3 =>
 T.loads (a2.add 1) [.int .u32] <| fun n4 =>
 T.loads (a3.add 1) [.int .u32] <| fun n5 =>
 cond (n4==n5)
 (T.loads a2 [.slice 109] <| fun p6 l7 l8 =>
 T.loads a3 [.slice 109] <| fun p9 l10 l11 =>
 T.call Tryz.prog 117 [.slice p6 l7 l8,.slice p9 l10 l11] false [(false,[.bool])] <| fun b12 =>
 T.ret (.bool b12))
 (T.ret (.bool false))
theorem t_expr_Same_eq (pp00:Option Addr) (ll00 cc00:Nat) (n1_0:Int) (pp10:Option Addr) (ll10 cc10:Nat) (n1_1:Int):xfun Tryz.prog [] Tryz.f80 [.agg #[.slice pp00 ll00 cc00,.int .u32 n1_0],.agg #[.slice pp10 ll10 cc10,.int .u32 n1_1]]=t_expr_Same pp00 ll00 cc00 n1_0 pp10 ll10 cc10 n1_1:=by kernel_rfl
def t_spandrelref4_Same (pp00:Option Addr) (ll00 cc00:Nat) (n1_0:Int) (pp10:Option Addr) (ll10 cc10:Nat) (n1_1:Int):T :=
 T.new [.slice pp00 ll00 cc00,.int .u32 n1_0] 94 <| fun a2 =>
 T.new [.slice pp10 ll10 cc10,.int .u32 n1_1] 94 <| fun a3 =>
 T.loads (a2.add 1) [.int .u32] <| fun n4 =>
 T.loads (a3.add 1) [.int .u32] <| fun n5 =>
 cond (n4 != n5)
 (T.ret (.bool false))
 (T.loads a2 [.slice 109] <| fun p6 l7 l8 =>
 T.loads a3 [.slice 109] <| fun p9 l10 l11 =>
 cond ((l7:Int) != (l10:Int))
 (T.ret (.bool false))
 (T.loop [(false,[.bool]),(false,[.int .i64])] [.bool false,vI 0] <| fun b12 n13 =>
 T.loads a2 [.slice 109] <| fun p14 l15 l16 =>
 cond (decide (n13<(l15:Int)))
 (T.loads a2 [.slice 109] <| fun p17 l18 l19 =>
 T.need (((0:Int)≤n13)∧(n13<(l18:Int))) <|
 T.osome p17 <| fun a20 =>
 T.loads (a20.add ((Int.toNat n13)*2)) [.string,.int .u32] <| fun s21 n22 =>
 T.loads a3 [.slice 109] <| fun p23 l24 l25 =>
 T.need (((0:Int)≤n13)∧(n13<(l24:Int))) <|
 T.osome p23 <| fun a26 =>
 T.loads (a26.add ((Int.toNat n13)*2)) [.string,.int .u32] <| fun s27 n28 =>
 T.sem Tryz.prog (Sx.cmpS (BinOp.neq) 109 (Operand.tmp 31) (Operand.tmp 36) (.agg #[.string s21,.int .u32 n22]) (.agg #[.string s27,.int .u32 n28])) false [(false,[.bool])] <| fun b29 =>
 T.stable [(a3,[.slice p23 l24 l25]),(a2,[.slice p17 l18 l19])] <|
 cond b29
 (T.ret (.bool false))
 (T.again 0 [.bool b12,vI (IntKind.wrap .i64 (n13+(1:Int)))]))
 (T.ret (.bool true))))
theorem t_spandrelref4_Same_eq (pp00:Option Addr) (ll00 cc00:Nat) (n1_0:Int) (pp10:Option Addr) (ll10 cc10:Nat) (n1_1:Int):xfun Tryz.prog [] Tryz.f75 [.agg #[.slice pp00 ll00 cc00,.int .u32 n1_0],.agg #[.slice pp10 ll10 cc10,.int .u32 n1_1]]=t_spandrelref4_Same pp00 ll00 cc00 n1_0 pp10 ll10 cc10 n1_1:=by kernel_rfl
def t_expr_Named (s0:ByteArray):T :=
 T.new [.slice none 0 0,.int .u32 0] 94 <| fun a1 =>
 T.sem Tryz.prog (Instr.buildSlice 91 1 #[(0,.agg #[.string s0,.int .u32 1])]) false [(false,[.slice 0])] <| fun p2 l3 l4 =>
 T.stores a1 [.slice p2 l3 l4,.int .u32 0] <|
 T.loads a1 [.slice 109,.int .u32] <| fun p5 l6 l7 n8 =>
 T.ret (.agg #[.slice p5 l6 l7,.int .u32 n8])
theorem t_expr_Named_eq (s0:ByteArray):xfun Tryz.prog [] Tryz.f155 [.string s0]=t_expr_Named s0:=by kernel_rfl
def t_slices_Equal___api_Term_api_Term_ (pp00:Option Addr) (ll00 cc00:Nat) (pp10:Option Addr) (ll10 cc10:Nat):T :=
 cond ((ll00:Int) != (ll10:Int))
 (T.ret (.bool false))
 (T.loop [(false,[.bool]),(false,[.int .i64])] [.bool false,vI 0] <| fun b2 n3 =>
 cond (decide (n3<(ll00:Int)))
 (T.need (((0:Int)≤n3)∧(n3<(ll00:Int))) <|
 T.osome pp00 <| fun a4 =>
 T.loads (a4.add ((Int.toNat n3)*2)) [.string,.int .u32] <| fun s5 n6 =>
 T.need (((0:Int)≤n3)∧(n3<(ll10:Int))) <|
 T.osome pp10 <| fun a7 =>
 T.loads (a7.add ((Int.toNat n3)*2)) [.string,.int .u32] <| fun s8 n9 =>
 T.sem Tryz.prog (Sx.cmpS (BinOp.neq) 109 (Operand.tmp 19) (Operand.tmp 23) (.agg #[.string s5,.int .u32 n6]) (.agg #[.string s8,.int .u32 n9])) false [(false,[.bool])] <| fun b10 =>
 cond b10
 (T.ret (.bool false))
 (T.again 0 [.bool b2,vI (IntKind.wrap .i64 (n3+(1:Int)))]))
 (T.ret (.bool true)))
theorem t_slices_Equal___api_Term_api_Term__eq (pp00:Option Addr) (ll00 cc00:Nat) (pp10:Option Addr) (ll10 cc10:Nat):xfun Tryz.prog [] Tryz.f117 [.slice pp00 ll00 cc00,.slice pp10 ll10 cc10]=t_slices_Equal___api_Term_api_Term_ pp00 ll00 cc00 pp10 ll10 cc10:=by kernel_rfl
def t_expr_parser__sign (p0:Option Addr) (s1:ByteArray):T :=
 T.osome p0 <| fun a2 =>
 T.loads (a2.add 2) [.int .i64] <| fun n3 =>
 cond (n3 != (0:Int))
 (T.ret (.bool false))
 (T.osome p0 <| fun a4 =>
 T.loads a4 [.slice 178] <| fun p5 l6 l7 =>
 cond ((l6:Int)==(0:Int))
 (T.ret (.bool false))
 (T.osome p0 <| fun a8 =>
 T.loads a8 [.slice 178] <| fun p9 l10 l11 =>
 T.need (((0:Int)≤(0:Int))∧((0:Int)<(l10:Int))) <|
 T.osome p9 <| fun a12 =>
 T.loads a12 [.int .i64] <| fun n13 =>
 cond (n13 != (3:Int))
 (T.ret (.bool false))
 (T.osome p0 <| fun a14 =>
 T.loads a14 [.slice 178] <| fun p15 l16 l17 =>
 T.need (((0:Int)≤(0:Int))∧((0:Int)<(l16:Int))) <|
 T.osome p15 <| fun a18 =>
 T.loads (a18.add 1) [.string] <| fun s19 =>
 cond (!((ByteArray.toList s19)==(ByteArray.toList s1)))
 (T.ret (.bool false))
 (T.osome p0 <| fun a20 =>
 T.loads a20 [.slice 178] <| fun p21 l22 l23 =>
 T.need (((0:Int)≤(1:Int))∧(((1:Int)≤(l22:Int))∧((l22:Int)≤(l23:Int)))) <|
 T.osome p0 <| fun a24 =>
 T.stores a24 [.slice (if (l23=1) then p21 else (Option.map (fun a=>Addr.add a 4) p21)) ((Int.toNat (l22:Int))-1) (l23-1)] <|
 T.ret (.bool true)))))
theorem t_expr_parser__sign_eq (p0:Option Addr) (s1:ByteArray):xfun Tryz.prog [] Tryz.f153 [.pointer p0,.string s1]=t_expr_parser__sign p0 s1:=by kernel_rfl
def t_expr_parser__refuse (p0:Option Addr) (n1:Int):T :=
 T.osome p0 <| fun a2 =>
 T.loads (a2.add 2) [.int .i64] <| fun n3 =>
 cond (n3==(0:Int))
 (T.osome p0 <| fun a4 =>
 T.stores (a4.add 2) [vI n1] <|
 T.ret (.tuple #[]))
 (T.ret (.tuple #[]))
theorem t_expr_parser__refuse_eq (p0:Option Addr) (n1:Int):xfun Tryz.prog [] Tryz.f154 [.pointer p0,vI n1]=t_expr_parser__refuse p0 n1:=by kernel_rfl
end Go.Sx
