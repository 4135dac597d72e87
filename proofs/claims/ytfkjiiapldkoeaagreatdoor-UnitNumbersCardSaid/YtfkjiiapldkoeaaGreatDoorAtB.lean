/- Trees of functions, each checked by the kernel against the code. No condition. -/
import Derived.Test.YtfkjiiapldkoeaaGreatDoorSxF
import Derived.Test.YtfkjiiapldkoeaaGreatDoorProg
import Derived.KernelRfl
set_option linter.unusedVariables false
set_option linter.unusedSimpArgs false
set_option linter.deprecated false
set_option maxRecDepth 100000
namespace Go.Sx
open Go.Proofs
def t_item_code (n0:Int) (pp10:Option Addr) (ll10 cc10:Nat):T :=
 T.new [vI 0,.string ⟨#[]⟩,vI 0,vI 0,vI 0,.int .i32 0,vI 0,.slice none 0 0,.int .u32 0,vI 0] 96 <| fun a2 =>
 T.call Tryz.prog 90 [vI n0] true [(true,[.string,.int .u8,.int .i64]),(false,[.bool])] <| fun s3 n4 n5 b6 =>
 T.new [.string ⟨#[]⟩,.int .u8 0,vI 0] 158 <| fun a7 =>
 T.stores a7 [.string s3,.int .u8 n4,vI n5] <|
 T.loads (a7.add 2) [.int .i64] <| fun n8 =>
 T.call Tryz.prog 124 [vI n8] false [(false,[.slice 20])] <| fun p9 l10 l11 =>
 cond ((l10:Int) != (ll10:Int))
 (T.stores a2 [vI 0,.string ⟨#[]⟩,vI 0,vI 0,vI 0,.int .i32 0,vI 0,.slice none 0 0,.int .u32 0,vI 0] <|
 T.loads a2 yI <| fun n12 s13 n14 n15 n16 n17 n18 p19 l20 l21 n22 n23 =>
 T.ret (.tuple #[.agg #[vI n12,.string s13,vI n14,vI n15,vI n16,.int .i32 n17,vI n18,.slice p19 l20 l21,.int .u32 n22,vI n23],vI 20]))
 (T.new [vI 0,.string ⟨#[]⟩,vI 0,vI 0,vI 0,.int .i32 0,vI 0,.slice none 0 0,.int .u32 0,vI 0] 96 <| fun a12 =>
 T.stores a12 [vI 2,.string ⟨#[]⟩,vI n0,vI 0,vI 0,.int .i32 0,vI 0,.slice none 0 0,.int .u32 0,vI 0] <|
 T.loop [(false,[.int .i64]),(false,[.int .i64])] [vI 0,vI 0] <| fun n13 n14 =>
 cond (decide (n14<(l10:Int)))
 (T.need (((0:Int)≤n14)∧(n14<(l10:Int))) <|
 T.osome p9 <| fun a15 =>
 T.loads (a15.add ((Int.toNat n14)*1)) [.interface #[]] <| fun (v16:Value) =>
 T.need (((0:Int)≤n14)∧(n14<(ll10:Int))) <|
 T.osome pp10 <| fun a17 =>
 T.loads (a17.add ((Int.toNat n14)*1)) [.slice 178] <| fun p18 l19 l20 =>
 T.call Tryz.prog 125 [.pointer (some a12),v16,.slice p18 l19 l20] false [(false,[.int .i64])] <| fun n21 =>
 cond (n21 != (0:Int))
 (T.stores a2 [vI 0,.string ⟨#[]⟩,vI 0,vI 0,vI 0,.int .i32 0,vI 0,.slice none 0 0,.int .u32 0,vI 0] <|
 T.loads a2 yI <| fun n22 s23 n24 n25 n26 n27 n28 p29 l30 l31 n32 n33 =>
 T.ret (.tuple #[.agg #[vI n22,.string s23,vI n24,vI n25,vI n26,.int .i32 n27,vI n28,.slice p29 l30 l31,.int .u32 n32,vI n33],vI n21]))
 (T.again 0 [vI n13,vI (IntKind.wrap .i64 (n14+(1:Int)))]))
 (T.loads a12 yI <| fun n15 s16 n17 n18 n19 n20 n21 p22 l23 l24 n25 n26 =>
 T.stores a2 [vI n15,.string s16,vI n17,vI n18,vI n19,.int .i32 n20,vI n21,.slice p22 l23 l24,.int .u32 n25,vI n26] <|
 T.loads a2 yI <| fun n27 s28 n29 n30 n31 n32 n33 p34 l35 l36 n37 n38 =>
 T.ret (.tuple #[.agg #[vI n27,.string s28,vI n29,vI n30,vI n31,.int .i32 n32,vI n33,.slice p34 l35 l36,.int .u32 n37,vI n38],vI 0])))
theorem t_item_code_eq (n0:Int) (pp10:Option Addr) (ll10 cc10:Nat):xfun Tryz.prog [] Tryz.f99 [vI n0,.slice pp10 ll10 cc10]=t_item_code n0 pp10 ll10 cc10:=by kernel_rfl
def t_item_directive (s0:ByteArray) (pp10:Option Addr) (ll10 cc10:Nat):T :=
 T.new [vI 0,.slice none 0 0,.string ⟨#[]⟩,.slice none 0 0,.int .u32 0,vI 0] 134 <| fun a2 =>
 T.call Tryz.prog 126 [.string s0] true [(false,[.int .i64]),(false,[.bool])] <| fun n3 b4 =>
 T.join [(false,[.int .i64]),(false,[.int .i64])]
 (cond (!b4)
 (T.stores a2 [vI 0,.slice none 0 0,.string ⟨#[]⟩,.slice none 0 0,.int .u32 0,vI 0] <|
 T.loads a2 yT <| fun n5 p6 l7 l8 s9 p10 l11 l12 n13 n14 =>
 T.ret (.tuple #[.agg #[vI n5,.slice p6 l7 l8,.string s9,.slice p10 l11 l12,.int .u32 n13,vI n14],vI 0,vI 20]))
 (cond (decide (n3≥(0:Int)))
 (cond ((ll10:Int) != n3)
 (T.stores a2 [vI 0,.slice none 0 0,.string ⟨#[]⟩,.slice none 0 0,.int .u32 0,vI 0] <|
 T.loads a2 yT <| fun n5 p6 l7 l8 s9 p10 l11 l12 n13 n14 =>
 T.ret (.tuple #[.agg #[vI n5,.slice p6 l7 l8,.string s9,.slice p10 l11 l12,.int .u32 n13,vI n14],vI 0,vI 20]))
 (T.again 0 [vI 0,vI 0]))
 (T.again 0 [vI 0,vI 0]))) <| fun n5 n6 =>
 cond ((ByteArray.toList s0)==[({ toBitVec:=112#8 }),({ toBitVec:=111#8 }),({ toBitVec:=111#8 }),({ toBitVec:=108#8 })])
 (T.sem Tryz.prog (Instr.buildSlice 23 1 #[(0,.agg #[vI 4,.string ⟨#[]⟩,vI 0,vI 0,vI 0,.int .i32 0,vI 0,.slice none 0 0,.int .u32 0,vI 0])]) false [(false,[.slice 0])] <| fun p7 l8 l9 =>
 T.stores a2 [vI 1,.slice p7 l8 l9,.string ⟨#[]⟩,.slice none 0 0,.int .u32 0,vI 0] <|
 T.loads a2 yT <| fun n10 p11 l12 l13 s14 p15 l16 l17 n18 n19 =>
 T.ret (.tuple #[.agg #[vI n10,.slice p11 l12 l13,.string s14,.slice p15 l16 l17,.int .u32 n18,vI n19],vI 0,vI 0]))
 (cond ((ByteArray.toList s0)==[({ toBitVec:=97#8 }),({ toBitVec:=108#8 }),({ toBitVec:=105#8 }),({ toBitVec:=103#8 }),({ toBitVec:=110#8 })])
 (T.need (((0:Int)≤(0:Int))∧((0:Int)<(ll10:Int))) <|
 T.osome pp10 <| fun a7 =>
 T.loads a7 [.slice 178] <| fun p8 l9 l10 =>
 T.call Tryz.prog 127 [.slice p8 l9 l10,vI 1,vI 256] true [(false,[.int .i64]),(false,[.int .i64])] <| fun n11 n12 =>
 cond (n12==(0:Int))
 (T.call Tryz.prog 79 [vI n11] false [(false,[.bool])] <| fun b13 =>
 cond (!b13)
 (T.sem Tryz.prog (Instr.buildSlice 23 1 #[(0,.agg #[vI 3,.string ⟨#[]⟩,vI 0,vI 0,vI 0,.int .i32 0,vI 0,.slice none 0 0,.int .u32 0,vI n11])]) false [(false,[.slice 0])] <| fun p14 l15 l16 =>
 T.stores a2 [vI 1,.slice p14 l15 l16,.string ⟨#[]⟩,.slice none 0 0,.int .u32 0,vI 0] <|
 T.loads a2 yT <| fun n17 p18 l19 l20 s21 p22 l23 l24 n25 n26 =>
 T.ret (.tuple #[.agg #[vI n17,.slice p18 l19 l20,.string s21,.slice p22 l23 l24,.int .u32 n25,vI n26],vI (-1:Int),vI 21]))
 (T.sem Tryz.prog (Instr.buildSlice 23 1 #[(0,.agg #[vI 3,.string ⟨#[]⟩,vI 0,vI 0,vI 0,.int .i32 0,vI 0,.slice none 0 0,.int .u32 0,vI n11])]) false [(false,[.slice 0])] <| fun p14 l15 l16 =>
 T.stores a2 [vI 1,.slice p14 l15 l16,.string ⟨#[]⟩,.slice none 0 0,.int .u32 0,vI 0] <|
 T.loads a2 yT <| fun n17 p18 l19 l20 s21 p22 l23 l24 n25 n26 =>
 T.ret (.tuple #[.agg #[vI n17,.slice p18 l19 l20,.string s21,.slice p22 l23 l24,.int .u32 n25,vI n26],vI (-1:Int),vI n12])))
 (T.sem Tryz.prog (Instr.buildSlice 23 1 #[(0,.agg #[vI 3,.string ⟨#[]⟩,vI 0,vI 0,vI 0,.int .i32 0,vI 0,.slice none 0 0,.int .u32 0,vI n11])]) false [(false,[.slice 0])] <| fun p13 l14 l15 =>
 T.stores a2 [vI 1,.slice p13 l14 l15,.string ⟨#[]⟩,.slice none 0 0,.int .u32 0,vI 0] <|
 T.loads a2 yT <| fun n16 p17 l18 l19 s20 p21 l22 l23 n24 n25 =>
 T.ret (.tuple #[.agg #[vI n16,.slice p17 l18 l19,.string s20,.slice p21 l22 l23,.int .u32 n24,vI n25],vI (-1:Int),vI n12])))
 (cond ((ByteArray.toList s0)==[({ toBitVec:=115#8 }),({ toBitVec:=112#8 }),({ toBitVec:=97#8 }),({ toBitVec:=99#8 }),({ toBitVec:=101#8 })])
 (T.need (((0:Int)≤(0:Int))∧((0:Int)<(ll10:Int))) <|
 T.osome pp10 <| fun a7 =>
 T.loads a7 [.slice 178] <| fun p8 l9 l10 =>
 T.call Tryz.prog 127 [.slice p8 l9 l10,vI 0,vI 1048576] true [(false,[.int .i64]),(false,[.int .i64])] <| fun n11 n12 =>
 T.sem Tryz.prog (Instr.buildSlice 23 1 #[(0,.agg #[vI 7,.string ⟨#[]⟩,vI 0,vI 0,vI 0,.int .i32 0,vI 0,.slice none 0 0,.int .u32 0,vI n11])]) false [(false,[.slice 0])] <| fun p13 l14 l15 =>
 T.stores a2 [vI 1,.slice p13 l14 l15,.string ⟨#[]⟩,.slice none 0 0,.int .u32 0,vI 0] <|
 T.loads a2 yT <| fun n16 p17 l18 l19 s20 p21 l22 l23 n24 n25 =>
 T.ret (.tuple #[.agg #[vI n16,.slice p17 l18 l19,.string s20,.slice p21 l22 l23,.int .u32 n24,vI n25],vI 1,vI n12]))
 (cond ((ByteArray.toList s0)==[({ toBitVec:=98#8 }),({ toBitVec:=121#8 }),({ toBitVec:=116#8 }),({ toBitVec:=101#8 })])
 (T.call Tryz.prog 128 [vI 5,.slice pp10 ll10 cc10] true [(false,[.slice 96]),(false,[.int .i64])] <| fun p7 l8 l9 n10 =>
 T.stores a2 [vI 2,.slice p7 l8 l9,.string ⟨#[]⟩,.slice none 0 0,.int .u32 0,vI 0] <|
 T.loads a2 yT <| fun n11 p12 l13 l14 s15 p16 l17 l18 n19 n20 =>
 T.ret (.tuple #[.agg #[vI n11,.slice p12 l13 l14,.string s15,.slice p16 l17 l18,.int .u32 n19,vI n20],vI 1,vI n10]))
 (cond ((ByteArray.toList s0)==[({ toBitVec:=119#8 }),({ toBitVec:=111#8 }),({ toBitVec:=114#8 }),({ toBitVec:=100#8 })])
 (T.call Tryz.prog 128 [vI 6,.slice pp10 ll10 cc10] true [(false,[.slice 96]),(false,[.int .i64])] <| fun p7 l8 l9 n10 =>
 T.stores a2 [vI 2,.slice p7 l8 l9,.string ⟨#[]⟩,.slice none 0 0,.int .u32 0,vI 0] <|
 T.loads a2 yT <| fun n11 p12 l13 l14 s15 p16 l17 l18 n19 n20 =>
 T.ret (.tuple #[.agg #[vI n11,.slice p12 l13 l14,.string s15,.slice p16 l17 l18,.int .u32 n19,vI n20],vI 1,vI n10]))
 (cond ((ByteArray.toList s0)==[({ toBitVec:=101#8 }),({ toBitVec:=113#8 }),({ toBitVec:=117#8 })])
 (T.need (((0:Int)≤(0:Int))∧((0:Int)<(ll10:Int))) <|
 T.osome pp10 <| fun a7 =>
 T.loads a7 [.slice 178] <| fun p8 l9 l10 =>
 T.call Tryz.prog 129 [.slice p8 l9 l10] true [(false,[.string]),(false,[.int .i64])] <| fun s11 n12 =>
 cond (n12 != (0:Int))
 (T.stores a2 [vI 0,.slice none 0 0,.string ⟨#[]⟩,.slice none 0 0,.int .u32 0,vI 0] <|
 T.loads a2 yT <| fun n13 p14 l15 l16 s17 p18 l19 l20 n21 n22 =>
 T.ret (.tuple #[.agg #[vI n13,.slice p14 l15 l16,.string s17,.slice p18 l19 l20,.int .u32 n21,vI n22],vI (-1:Int),vI n12]))
 (T.need (((0:Int)≤(1:Int))∧((1:Int)<(ll10:Int))) <|
 T.osome pp10 <| fun a13 =>
 T.loads (a13.add 1) [.slice 178] <| fun p14 l15 l16 =>
 T.call Tryz.prog 130 [.slice p14 l15 l16] true [(true,[.slice 109,.int .u32]),(false,[.int .i64])] <| fun p17 l18 l19 n20 n21 =>
 T.new [.slice none 0 0,.int .u32 0] 94 <| fun a22 =>
 T.stores a22 [.slice p17 l18 l19,.int .u32 n20] <|
 T.loads a22 [.slice 109,.int .u32] <| fun p23 l24 l25 n26 =>
 T.stores a2 [vI 3,.slice none 0 0,.string s11,.slice p23 l24 l25,.int .u32 n26,vI 0] <|
 T.loads a2 yT <| fun n27 p28 l29 l30 s31 p32 l33 l34 n35 n36 =>
 T.ret (.tuple #[.agg #[vI n27,.slice p28 l29 l30,.string s31,.slice p32 l33 l34,.int .u32 n35,vI n36],vI (-1:Int),vI n21])))
 (cond ((ByteArray.toList s0)==[({ toBitVec:=103#8 }),({ toBitVec:=108#8 }),({ toBitVec:=111#8 }),({ toBitVec:=98#8 }),({ toBitVec:=97#8 }),({ toBitVec:=108#8 })])
 (T.need (((0:Int)≤(0:Int))∧((0:Int)<(ll10:Int))) <|
 T.osome pp10 <| fun a7 =>
 T.loads a7 [.slice 178] <| fun p8 l9 l10 =>
 T.call Tryz.prog 129 [.slice p8 l9 l10] true [(false,[.string]),(false,[.int .i64])] <| fun s11 n12 =>
 T.stores a2 [vI 4,.slice none 0 0,.string s11,.slice none 0 0,.int .u32 0,vI 0] <|
 T.loads a2 yT <| fun n13 p14 l15 l16 s17 p18 l19 l20 n21 n22 =>
 T.ret (.tuple #[.agg #[vI n13,.slice p14 l15 l16,.string s17,.slice p18 l19 l20,.int .u32 n21,vI n22],vI (-1:Int),vI n12]))
 (T.need (((0:Int)≤(0:Int))∧((0:Int)<(ll10:Int))) <|
 T.osome pp10 <| fun a7 =>
 T.loads a7 [.slice 178] <| fun p8 l9 l10 =>
 cond ((l9:Int)==(1:Int))
 (T.need (((0:Int)≤(0:Int))∧((0:Int)<(ll10:Int))) <|
 T.osome pp10 <| fun a11 =>
 T.loads a11 [.slice 178] <| fun p12 l13 l14 =>
 T.need (((0:Int)≤(0:Int))∧((0:Int)<(l13:Int))) <|
 T.osome p12 <| fun a15 =>
 T.loads a15 [.int .i64] <| fun n16 =>
 cond (n16==(1:Int))
 (T.need (((0:Int)≤(0:Int))∧((0:Int)<(ll10:Int))) <|
 T.osome pp10 <| fun a17 =>
 T.loads a17 [.slice 178] <| fun p18 l19 l20 =>
 T.need (((0:Int)≤(0:Int))∧((0:Int)<(l19:Int))) <|
 T.osome p18 <| fun a21 =>
 T.loads (a21.add 1) [.string] <| fun s22 =>
 cond ((ByteArray.toList s22)==[({ toBitVec:=116#8 }),({ toBitVec:=101#8 }),({ toBitVec:=120#8 }),({ toBitVec:=116#8 })])
 (T.stores a2 [vI 5,.slice none 0 0,.string ⟨#[]⟩,.slice none 0 0,.int .u32 0,vI 0] <|
 T.loads a2 yT <| fun n23 p24 l25 l26 s27 p28 l29 l30 n31 n32 =>
 T.ret (.tuple #[.agg #[vI n23,.slice p24 l25 l26,.string s27,.slice p28 l29 l30,.int .u32 n31,vI n32],vI (-1:Int),vI 0]))
 (cond ((ByteArray.toList s22)==[({ toBitVec:=100#8 }),({ toBitVec:=97#8 }),({ toBitVec:=116#8 }),({ toBitVec:=97#8 })])
 (T.stores a2 [vI 5,.slice none 0 0,.string ⟨#[]⟩,.slice none 0 0,.int .u32 0,vI 1] <|
 T.loads a2 yT <| fun n23 p24 l25 l26 s27 p28 l29 l30 n31 n32 =>
 T.ret (.tuple #[.agg #[vI n23,.slice p24 l25 l26,.string s27,.slice p28 l29 l30,.int .u32 n31,vI n32],vI (-1:Int),vI 0]))
 (T.stores a2 [vI 0,.slice none 0 0,.string ⟨#[]⟩,.slice none 0 0,.int .u32 0,vI 0] <|
 T.loads a2 yT <| fun n23 p24 l25 l26 s27 p28 l29 l30 n31 n32 =>
 T.ret (.tuple #[.agg #[vI n23,.slice p24 l25 l26,.string s27,.slice p28 l29 l30,.int .u32 n31,vI n32],vI (-1:Int),vI 20]))))
 (T.stores a2 [vI 0,.slice none 0 0,.string ⟨#[]⟩,.slice none 0 0,.int .u32 0,vI 0] <|
 T.loads a2 yT <| fun n17 p18 l19 l20 s21 p22 l23 l24 n25 n26 =>
 T.ret (.tuple #[.agg #[vI n17,.slice p18 l19 l20,.string s21,.slice p22 l23 l24,.int .u32 n25,vI n26],vI (-1:Int),vI 20])))
 (T.stores a2 [vI 0,.slice none 0 0,.string ⟨#[]⟩,.slice none 0 0,.int .u32 0,vI 0] <|
 T.loads a2 yT <| fun n11 p12 l13 l14 s15 p16 l17 l18 n19 n20 =>
 T.ret (.tuple #[.agg #[vI n11,.slice p12 l13 l14,.string s15,.slice p16 l17 l18,.int .u32 n19,vI n20],vI (-1:Int),vI 20])))))))))
theorem t_item_directive_eq (s0:ByteArray) (pp10:Option Addr) (ll10 cc10:Nat):xfun Tryz.prog [1004] Tryz.f100 [.string s0,.slice pp10 ll10 cc10]=t_item_directive s0 pp10 ll10 cc10:=by kernel_rfl
end Go.Sx
