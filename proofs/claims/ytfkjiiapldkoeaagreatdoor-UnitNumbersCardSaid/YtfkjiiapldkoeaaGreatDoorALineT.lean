/- Trees of functions, each checked by the kernel against the code. No condition. -/
import Derived.Test.YtfkjiiapldkoeaaGreatDoorSxF
import Derived.Test.YtfkjiiapldkoeaaGreatDoorProg
import Derived.KernelRfl
set_option linter.unusedVariables false
set_option linter.unusedSimpArgs false
set_option linter.deprecated false
set_option maxRecDepth 100000
namespace Go.Sx
open Go.Proofs
def t_line_Parse (s0:ByteArray):T :=
 T.new [.string ⟨#[]⟩,.string ⟨#[]⟩,.slice none 0 0] 130 <| fun a1 =>
 T.call Tryz.prog 95 [.string s0] true [(false,[.slice 178]),(false,[.int .i64]),(false,[.int .i64])] <| fun p2 l3 l4 n5 n6 =>
 cond (n6 != (0:Int))
 (T.stores a1 [.string ⟨#[]⟩,.string ⟨#[]⟩,.slice none 0 0] <|
 T.loads a1 [.string,.string,.slice 174] <| fun s7 s8 p9 l10 l11 =>
 T.ret (.tuple #[.agg #[.string s7,.string s8,.slice p9 l10 l11],vI n5,vI n6]))
 (T.new [.string ⟨#[]⟩,.string ⟨#[]⟩,.slice none 0 0] 130 <| fun a7 =>
 T.join [(false,[.slice 0])]
 (cond (decide ((l3:Int)>(1:Int)))
 (T.need (((0:Int)≤(0:Int))∧((0:Int)<(l3:Int))) <|
 T.osome p2 <| fun a8 =>
 T.loads a8 [.int .i64] <| fun n9 =>
 cond (n9==(1:Int))
 (T.need (((0:Int)≤(1:Int))∧((1:Int)<(l3:Int))) <|
 T.osome p2 <| fun a10 =>
 T.loads (a10.add 4) [.int .i64,.string,.int .u32,.int .i64] <| fun n11 s12 n13 n14 =>
 T.call Tryz.prog 96 [.agg #[vI n11,.string s12,.int .u32 n13,vI n14],.string ⟨#[58]⟩] false [(false,[.bool])] <| fun b15 =>
 cond b15
 (T.need (((0:Int)≤(0:Int))∧((0:Int)<(l3:Int))) <|
 T.osome p2 <| fun a16 =>
 T.loads (a16.add 1) [.string] <| fun s17 =>
 T.stores a7 [.string s17] <|
 T.need (((0:Int)≤(2:Int))∧(((2:Int)≤(l3:Int))∧((l3:Int)≤(l4:Int)))) <|
 T.again 0 [.slice (if (l4=2) then p2 else (Option.map (fun a=>Addr.add a 8) p2)) ((Int.toNat (l3:Int))-2) (l4-2)])
 (T.again 0 [.slice p2 l3 l4]))
 (T.again 0 [.slice p2 l3 l4]))
 (T.again 0 [.slice p2 l3 l4])) <| fun p8 l9 l10 =>
 cond ((l9:Int)==(0:Int))
 (T.loads a7 [.string,.string,.slice 174] <| fun s11 s12 p13 l14 l15 =>
 T.stores a1 [.string s11,.string s12,.slice p13 l14 l15] <|
 T.loads a1 [.string,.string,.slice 174] <| fun s16 s17 p18 l19 l20 =>
 T.ret (.tuple #[.agg #[.string s16,.string s17,.slice p18 l19 l20],vI 0,vI 0]))
 (T.need (((0:Int)≤(0:Int))∧((0:Int)<(l9:Int))) <|
 T.osome p8 <| fun a11 =>
 T.loads a11 [.int .i64] <| fun n12 =>
 cond (n12 != (1:Int))
 (T.need (((0:Int)≤(0:Int))∧((0:Int)<(l9:Int))) <|
 T.osome p8 <| fun a13 =>
 T.loads (a13.add 3) [.int .i64] <| fun n14 =>
 T.stores a1 [.string ⟨#[]⟩,.string ⟨#[]⟩,.slice none 0 0] <|
 T.stable [((a13.add 3),[vI n14])] <|
 T.loads a1 [.string,.string,.slice 174] <| fun s15 s16 p17 l18 l19 =>
 T.ret (.tuple #[.agg #[.string s15,.string s16,.slice p17 l18 l19],vI n14,vI 20]))
 (T.need (((0:Int)≤(0:Int))∧((0:Int)<(l9:Int))) <|
 T.osome p8 <| fun a13 =>
 T.loads (a13.add 1) [.string] <| fun s14 =>
 T.stores (a7.add 1) [.string s14] <|
 T.need (((0:Int)≤(1:Int))∧(((1:Int)≤(l9:Int))∧((l9:Int)≤(l10:Int)))) <|
 T.call Tryz.prog 97 [.string s0,.slice (if (l10=1) then p8 else (Option.map (fun a=>Addr.add a 4) p8)) ((Int.toNat (l9:Int))-1) (l10-1)] true [(false,[.slice 174]),(false,[.int .i64]),(false,[.int .i64])] <| fun p15 l16 l17 n18 n19 =>
 cond (n19 != (0:Int))
 (T.stores a1 [.string ⟨#[]⟩,.string ⟨#[]⟩,.slice none 0 0] <|
 T.loads a1 [.string,.string,.slice 174] <| fun s20 s21 p22 l23 l24 =>
 T.ret (.tuple #[.agg #[.string s20,.string s21,.slice p22 l23 l24],vI n18,vI n19]))
 (T.stores (a7.add 2) [.slice p15 l16 l17] <|
 T.loads a7 [.string,.string,.slice 174] <| fun s20 s21 p22 l23 l24 =>
 T.stores a1 [.string s20,.string s21,.slice p22 l23 l24] <|
 T.loads a1 [.string,.string,.slice 174] <| fun s25 s26 p27 l28 l29 =>
 T.ret (.tuple #[.agg #[.string s25,.string s26,.slice p27 l28 l29],vI 0,vI 0])))))
theorem t_line_Parse_eq (s0:ByteArray):xfun Tryz.prog [1008] Tryz.f64 [.string s0]=t_line_Parse s0:=by kernel_rfl
def t_line_arguments (s0:ByteArray) (pp10:Option Addr) (ll10 cc10:Nat):T :=
 cond ((ll10:Int)==(0:Int))
 (T.ret (.tuple #[.slice none 0 0,vI 0,vI 0]))
 (T.sem Tryz.prog (Instr.buildSlice 128 1 #[(0,.slice none 0 0)]) false [(false,[.slice 0])] <| fun p2 l3 l4 =>
 T.loop [(false,[.slice 0]),(false,[.int .i64]),(false,[.int .i64]),(false,[.slice 0]),(false,[.int .i64])] [.slice none 0 0,vI 0,vI 0,.slice p2 l3 l4,vI 0] <| fun p5 l6 l7 n8 n9 p10 l11 l12 n13 =>
 cond (decide (n13<(ll10:Int)))
 (T.need (((0:Int)≤n13)∧(n13<(ll10:Int))) <|
 T.osome pp10 <| fun a14 =>
 T.loads (a14.add ((Int.toNat n13)*4)) [.int .i64,.string,.int .u32,.int .i64] <| fun n15 s16 n17 n18 =>
 T.new [vI 0,.string ⟨#[]⟩,.int .u32 0,vI 0] 178 <| fun a19 =>
 T.stores a19 [vI n15,.string s16,.int .u32 n17,vI n18] <|
 T.join [(false,[.bool])]
 (T.loads a19 [.int .i64,.string,.int .u32,.int .i64] <| fun n20 s21 n22 n23 =>
 T.call Tryz.prog 96 [.agg #[vI n20,.string s21,.int .u32 n22,vI n23],.string ⟨#[58]⟩] false [(false,[.bool])] <| fun b24 =>
 cond b24
 (T.again 1 [.bool true])
 (T.loads a19 [.int .i64,.string,.int .u32,.int .i64] <| fun n25 s26 n27 n28 =>
 T.call Tryz.prog 96 [.agg #[vI n25,.string s26,.int .u32 n27,vI n28],.string ⟨#[44]⟩] false [(false,[.bool])] <| fun b29 =>
 cond b29
 (T.need (((0:Int)≤(IntKind.wrap .i64 ((l11:Int)-(1:Int))))∧((IntKind.wrap .i64 ((l11:Int)-(1:Int)))<(l11:Int))) <|
 T.osome p10 <| fun a30 =>
 T.loads (a30.add ((Int.toNat (IntKind.wrap .i64 ((l11:Int)-(1:Int))))*1)) [.slice 178] <| fun p31 l32 l33 =>
 T.again 1 [.bool ((l32:Int)==(0:Int))])
 (T.again 1 [.bool false]))) <| fun b20 =>
 cond b20
 (T.loads (a19.add 3) [.int .i64] <| fun n21 =>
 T.stable [((a19.add 3),[vI n21])] <|
 T.ret (.tuple #[.slice none 0 0,vI n21,vI 20]))
 (T.loads a19 [.int .i64,.string,.int .u32,.int .i64] <| fun n21 s22 n23 n24 =>
 T.call Tryz.prog 96 [.agg #[vI n21,.string s22,.int .u32 n23,vI n24],.string ⟨#[44]⟩] false [(false,[.bool])] <| fun b25 =>
 cond b25
 (T.sem Tryz.prog (Instr.buildSlice 128 1 #[(0,.slice none 0 0)]) false [(false,[.slice 0])] <| fun p26 l27 l28 =>
 T.sem Tryz.prog (Builtin.append_ #[128,128] 128 #[.slice p10 l11 l12,.slice p26 l27 l28]) false [(false,[.slice 0])] <| fun p29 l30 l31 =>
 T.again 0 [.slice p5 l6 l7,vI n8,vI n9,.slice p29 l30 l31,vI (IntKind.wrap .i64 (n13+(1:Int)))])
 (T.need (((0:Int)≤(IntKind.wrap .i64 ((l11:Int)-(1:Int))))∧((IntKind.wrap .i64 ((l11:Int)-(1:Int)))<(l11:Int))) <|
 T.osome p10 <| fun a26 =>
 T.loads (a26.add ((Int.toNat (IntKind.wrap .i64 ((l11:Int)-(1:Int))))*1)) [.slice 178] <| fun p27 l28 l29 =>
 T.loads a19 [.int .i64,.string,.int .u32,.int .i64] <| fun n30 s31 n32 n33 =>
 T.sem Tryz.prog (Instr.buildSlice 174 1 #[(0,.agg #[vI n30,.string s31,.int .u32 n32,vI n33])]) false [(false,[.slice 0])] <| fun p34 l35 l36 =>
 T.stable [((a26.add ((Int.toNat (IntKind.wrap .i64 ((l11:Int)-(1:Int))))*1)),[.slice p27 l28 l29])] <|
 T.sem Tryz.prog (Builtin.append_ #[174,174] 174 #[.slice p27 l28 l29,.slice p34 l35 l36]) false [(false,[.slice 0])] <| fun p37 l38 l39 =>
 T.stable [(a19,[vI n30,.string s31,.int .u32 n32,vI n33])] <|
 T.need (((0:Int)≤(IntKind.wrap .i64 ((l11:Int)-(1:Int))))∧((IntKind.wrap .i64 ((l11:Int)-(1:Int)))<(l11:Int))) <|
 T.osome p10 <| fun a40 =>
 T.stores (a40.add ((Int.toNat (IntKind.wrap .i64 ((l11:Int)-(1:Int))))*1)) [.slice p37 l38 l39] <|
 T.again 0 [.slice p5 l6 l7,vI n8,vI n9,.slice p10 l11 l12,vI (IntKind.wrap .i64 (n13+(1:Int)))])))
 (T.need (((0:Int)≤(IntKind.wrap .i64 ((l11:Int)-(1:Int))))∧((IntKind.wrap .i64 ((l11:Int)-(1:Int)))<(l11:Int))) <|
 T.osome p10 <| fun a14 =>
 T.loads (a14.add ((Int.toNat (IntKind.wrap .i64 ((l11:Int)-(1:Int))))*1)) [.slice 178] <| fun p15 l16 l17 =>
 cond ((l16:Int)==(0:Int))
 (T.ret (.tuple #[.slice none 0 0,vI (s0.size:Int),vI 20]))
 (T.ret (.tuple #[.slice p10 l11 l12,vI 0,vI 0]))))
theorem t_line_arguments_eq (s0:ByteArray) (pp10:Option Addr) (ll10 cc10:Nat):xfun Tryz.prog [9] Tryz.f97 [.string s0,.slice pp10 ll10 cc10]=t_line_arguments s0 pp10 ll10 cc10:=by kernel_rfl
def t_line_is (n0:Int) (s1_0:ByteArray) (n2_0:Int) (n3_0:Int) (s1:ByteArray):T :=
 T.new [vI n0,.string s1_0,.int .u32 n2_0,vI n3_0] 178 <| fun a2 =>
 T.loads a2 [.int .i64] <| fun n3 =>
 cond (n3==(3:Int))
 (T.loads (a2.add 1) [.string] <| fun s4 =>
 T.ret (.bool ((ByteArray.toList s4)==(ByteArray.toList s1))))
 (T.ret (.bool false))
theorem t_line_is_eq (n0:Int) (s1_0:ByteArray) (n2_0:Int) (n3_0:Int) (s1:ByteArray):xfun Tryz.prog [] Tryz.f96 [.agg #[vI n0,.string s1_0,.int .u32 n2_0,vI n3_0],.string s1]=t_line_is n0 s1_0 n2_0 n3_0 s1:=by kernel_rfl
end Go.Sx
