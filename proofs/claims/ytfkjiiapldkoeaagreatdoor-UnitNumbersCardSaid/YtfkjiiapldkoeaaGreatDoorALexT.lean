/- Trees of functions, each checked by the kernel against the code. No condition. -/
import Derived.Test.YtfkjiiapldkoeaaGreatDoorSxF
import Derived.Test.YtfkjiiapldkoeaaGreatDoorProg
import Derived.KernelRfl
set_option linter.unusedVariables false
set_option linter.unusedSimpArgs false
set_option linter.deprecated false
set_option maxRecDepth 100000
namespace Go.Sx
open Go.Proofs
def t_strings_IndexByte (s0:ByteArray) (n1:Int):T :=
 T.call Tryz.prog 145 [.string s0,.int .u8 n1] false [(false,[.int .i64])] <| fun n2 =>
 T.ret (vI n2)
theorem t_strings_IndexByte_eq (s0:ByteArray) (n1:Int):xfun Tryz.prog [] Tryz.f118 [.string s0,.int .u8 n1]=t_strings_IndexByte s0 n1:=by kernel_rfl
def t_internal_stringslite_IndexByte (s0:ByteArray) (n1:Int):T :=
 T.sem Tryz.prog (Sx.extS 174 #[.string s0,.int .u8 n1]) false [(false,[.int .i64])] <| fun n2 =>
 T.ret (vI n2)
theorem t_internal_stringslite_IndexByte_eq (s0:ByteArray) (n1:Int):xfun Tryz.prog [] Tryz.f145 [.string s0,.int .u8 n1]=t_internal_stringslite_IndexByte s0 n1:=by kernel_rfl
def t_lex_row (s0:ByteArray) (s1:ByteArray):T :=
 T.loop [(false,[.int .i64])] [vI 0] <| fun n2 =>
 cond (decide (n2<(s0.size:Int)))
 (T.need (((0:Int)≤n2)∧(n2<(s0.size:Int))) <|
 T.call Tryz.prog 118 [.string s1,.int .u8 (sbyte s0 n2)] false [(false,[.int .i64])] <| fun n3 =>
 cond (decide (n3≥(0:Int)))
 (T.again 0 [vI (IntKind.wrap .i64 (n2+(1:Int)))])
 (T.ret (vI n2)))
 (T.ret (vI n2))
theorem t_lex_row_eq (s0:ByteArray) (s1:ByteArray):xfun Tryz.prog [] Tryz.f82 [.string s0,.string s1]=t_lex_row s0 s1:=by kernel_rfl
def t_lex_Register (s0:ByteArray):T :=
 cond ((s0.size:Int) != (2:Int))
 (T.ret (.tuple #[vI 0,.bool false,.bool false]))
 (T.need (((0:Int)≤(1:Int))∧((1:Int)<(s0.size:Int))) <|
 T.need (((0:Int)≤(0:Int))∧((0:Int)<(s0.size:Int))) <|
 cond ((sbyte s0 (0:Int))==(114:Int))
 (cond (decide ((IntKind.wrap .i64 ((IntKind.wrap .i64 (sbyte s0 (1:Int)))-(48:Int)))≥(0:Int)))
 (cond (decide ((IntKind.wrap .i64 ((IntKind.wrap .i64 (sbyte s0 (1:Int)))-(48:Int)))<(8:Int)))
 (T.ret (.tuple #[vI (IntKind.wrap .i64 ((IntKind.wrap .i64 (sbyte s0 (1:Int)))-(48:Int))),.bool false,.bool true]))
 (T.need (((0:Int)≤(0:Int))∧((0:Int)<(s0.size:Int))) <|
 cond ((sbyte s0 (0:Int))==(122:Int))
 (cond (decide ((IntKind.wrap .i64 ((IntKind.wrap .i64 (sbyte s0 (1:Int)))-(48:Int)))≥(0:Int)))
 (cond (decide ((IntKind.wrap .i64 ((IntKind.wrap .i64 (sbyte s0 (1:Int)))-(48:Int)))<(4:Int)))
 (T.ret (.tuple #[vI (IntKind.wrap .i64 ((IntKind.wrap .i64 (sbyte s0 (1:Int)))-(48:Int))),.bool true,.bool true]))
 (T.ret (.tuple #[vI 0,.bool false,.bool false])))
 (T.ret (.tuple #[vI 0,.bool false,.bool false])))
 (T.ret (.tuple #[vI 0,.bool false,.bool false]))))
 (T.need (((0:Int)≤(0:Int))∧((0:Int)<(s0.size:Int))) <|
 cond ((sbyte s0 (0:Int))==(122:Int))
 (cond (decide ((IntKind.wrap .i64 ((IntKind.wrap .i64 (sbyte s0 (1:Int)))-(48:Int)))≥(0:Int)))
 (cond (decide ((IntKind.wrap .i64 ((IntKind.wrap .i64 (sbyte s0 (1:Int)))-(48:Int)))<(4:Int)))
 (T.ret (.tuple #[vI (IntKind.wrap .i64 ((IntKind.wrap .i64 (sbyte s0 (1:Int)))-(48:Int))),.bool true,.bool true]))
 (T.ret (.tuple #[vI 0,.bool false,.bool false])))
 (T.ret (.tuple #[vI 0,.bool false,.bool false])))
 (T.ret (.tuple #[vI 0,.bool false,.bool false]))))
 (T.need (((0:Int)≤(0:Int))∧((0:Int)<(s0.size:Int))) <|
 cond ((sbyte s0 (0:Int))==(122:Int))
 (cond (decide ((IntKind.wrap .i64 ((IntKind.wrap .i64 (sbyte s0 (1:Int)))-(48:Int)))≥(0:Int)))
 (cond (decide ((IntKind.wrap .i64 ((IntKind.wrap .i64 (sbyte s0 (1:Int)))-(48:Int)))<(4:Int)))
 (T.ret (.tuple #[vI (IntKind.wrap .i64 ((IntKind.wrap .i64 (sbyte s0 (1:Int)))-(48:Int))),.bool true,.bool true]))
 (T.ret (.tuple #[vI 0,.bool false,.bool false])))
 (T.ret (.tuple #[vI 0,.bool false,.bool false])))
 (T.ret (.tuple #[vI 0,.bool false,.bool false]))))
theorem t_lex_Register_eq (s0:ByteArray):xfun Tryz.prog [] Tryz.f81 [.string s0]=t_lex_Register s0:=by kernel_rfl
def t_lex_Legal (s0:ByteArray):T :=
 T.call Tryz.prog 81 [.string s0] true [(false,[.int .i64]),(false,[.bool]),(false,[.bool])] <| fun n1 b2 b3 =>
 cond (!((ByteArray.toList s0)==[]))
 (cond (decide ((s0.size:Int)≤(32:Int)))
 (T.call Tryz.prog 82 [.string s0,.string ⟨#[97,98,99,100,101,102,103,104,105,106,107,108,109,110,111,112,113,114,115,116,117,118,119,120,121,122,65,66,67,68,69,70,71,72,73,74,75,76,77,78,79,80,81,82,83,84,85,86,87,88,89,90,95]⟩] false [(false,[.int .i64])] <| fun n4 =>
 cond (decide (n4>(0:Int)))
 (T.call Tryz.prog 82 [.string s0,.string ⟨#[97,98,99,100,101,102,103,104,105,106,107,108,109,110,111,112,113,114,115,116,117,118,119,120,121,122,65,66,67,68,69,70,71,72,73,74,75,76,77,78,79,80,81,82,83,84,85,86,87,88,89,90,95,48,49,50,51,52,53,54,55,56,57]⟩] false [(false,[.int .i64])] <| fun n5 =>
 cond (n5==(s0.size:Int))
 (T.ret (.bool (!b3)))
 (T.ret (.bool false)))
 (T.ret (.bool false)))
 (T.ret (.bool false)))
 (T.ret (.bool false))
theorem t_lex_Legal_eq (s0:ByteArray):xfun Tryz.prog [] Tryz.f45 [.string s0]=t_lex_Legal s0:=by kernel_rfl
def t_strings_HasPrefix (s0:ByteArray) (s1:ByteArray):T :=
 T.call Tryz.prog 176 [.string s0,.string s1] false [(false,[.bool])] <| fun b2 =>
 T.ret (.bool b2)
theorem t_strings_HasPrefix_eq (s0:ByteArray) (s1:ByteArray):xfun Tryz.prog [] Tryz.f149 [.string s0,.string s1]=t_strings_HasPrefix s0 s1:=by kernel_rfl
def t_internal_stringslite_HasPrefix (s0:ByteArray) (s1:ByteArray):T :=
 cond (decide ((s0.size:Int)≥(s1.size:Int)))
 (T.need (((0:Int)≤(0:Int))∧(((0:Int)≤(s1.size:Int))∧((s1.size:Int)≤(s0.size:Int)))) <|
 T.ret (.bool ((ByteArray.toList (ByteArray.extract s0 0 (Int.toNat (s1.size:Int))))==(ByteArray.toList s1))))
 (T.ret (.bool false))
theorem t_internal_stringslite_HasPrefix_eq (s0:ByteArray) (s1:ByteArray):xfun Tryz.prog [] Tryz.f176 [.string s0,.string s1]=t_internal_stringslite_HasPrefix s0 s1:=by kernel_rfl
def t_lex_number (s0:ByteArray):T :=
 T.call Tryz.prog 82 [.string s0,.string ⟨#[48,49,50,51,52,53,54,55,56,57]⟩] false [(false,[.int .i64])] <| fun n1 =>
 T.call Tryz.prog 149 [.string s0,.string ⟨#[48,120]⟩] false [(false,[.bool])] <| fun b2 =>
 cond b2
 (T.need (((0:Int)≤(2:Int))∧(((2:Int)≤(s0.size:Int))∧((s0.size:Int)≤(s0.size:Int)))) <|
 T.call Tryz.prog 82 [.string (ByteArray.extract s0 2 (Int.toNat (s0.size:Int))),.string ⟨#[48,49,50,51,52,53,54,55,56,57,97,98,99,100,101,102]⟩] false [(false,[.int .i64])] <| fun n3 =>
 cond (decide (n3>(8:Int)))
 (T.ret (.tuple #[vI 0,.int .u32 0]))
 (T.need (((0:Int)≤(2:Int))∧(((2:Int)≤(IntKind.wrap .i64 ((2:Int)+n3)))∧((IntKind.wrap .i64 ((2:Int)+n3))≤(s0.size:Int)))) <|
 T.call Tryz.prog 150 [.string (ByteArray.extract s0 2 (Int.toNat (IntKind.wrap .i64 ((2 : Int) + n3)))), vI 16, vI 32] true [(false, [.int .u64]), (false, [.interface #[("Error", 85)]])] <| fun (n4 : Int) (v5 : Value) =>
 T.sem Tryz.prog (Sx.cmpS (BinOp.neq) 29 (Operand.tmp 37) (Operand.const Value.nilIface) v5 .nilIface) false [(false,[.bool])] <| fun b6 =>
 cond b6
 (T.ret (.tuple #[vI 0,.int .u32 0]))
 (T.ret (.tuple #[vI (IntKind.wrap .i64 ((2:Int)+n3)),.int .u32 (IntKind.wrap .u32 n4)]))))
 (cond (decide (n1>(1:Int)))
 (T.need (((0:Int)≤(0:Int))∧((0:Int)<(s0.size:Int))) <|
 cond ((sbyte s0 (0:Int))==(48:Int))
 (T.ret (.tuple #[vI 0,.int .u32 0]))
 (T.need (((0:Int)≤(0:Int))∧(((0:Int)≤(IntKind.wrap .i64 ((0:Int)+n1)))∧((IntKind.wrap .i64 ((0:Int)+n1))≤(s0.size:Int)))) <|
 T.call Tryz.prog 150 [.string (ByteArray.extract s0 0 (Int.toNat (IntKind.wrap .i64 ((0 : Int) + n1)))), vI 10, vI 32] true [(false, [.int .u64]), (false, [.interface #[("Error", 85)]])] <| fun (n3 : Int) (v4 : Value) =>
 T.sem Tryz.prog (Sx.cmpS (BinOp.neq) 29 (Operand.tmp 37) (Operand.const Value.nilIface) v4 .nilIface) false [(false,[.bool])] <| fun b5 =>
 cond b5
 (T.ret (.tuple #[vI 0,.int .u32 0]))
 (T.ret (.tuple #[vI (IntKind.wrap .i64 ((0:Int)+n1)),.int .u32 (IntKind.wrap .u32 n3)]))))
 (T.need (((0:Int)≤(0:Int))∧(((0:Int)≤(IntKind.wrap .i64 ((0:Int)+n1)))∧((IntKind.wrap .i64 ((0:Int)+n1))≤(s0.size:Int)))) <|
 T.call Tryz.prog 150 [.string (ByteArray.extract s0 0 (Int.toNat (IntKind.wrap .i64 ((0 : Int) + n1)))), vI 10, vI 32] true [(false, [.int .u64]), (false, [.interface #[("Error", 85)]])] <| fun (n3 : Int) (v4 : Value) =>
 T.sem Tryz.prog (Sx.cmpS (BinOp.neq) 29 (Operand.tmp 37) (Operand.const Value.nilIface) v4 .nilIface) false [(false,[.bool])] <| fun b5 =>
 cond b5
 (T.ret (.tuple #[vI 0,.int .u32 0]))
 (T.ret (.tuple #[vI (IntKind.wrap .i64 ((0:Int)+n1)),.int .u32 (IntKind.wrap .u32 n3)]))))
theorem t_lex_number_eq (s0:ByteArray):xfun Tryz.prog [] Tryz.f123 [.string s0]=t_lex_number s0:=by kernel_rfl
def t_lex_Tokens (s0:ByteArray):T :=
 T.new [vI 0,.string ⟨#[]⟩,.int .u32 0,vI 0] 178 <| fun a1 =>
 T.loop [(false,[.slice 0]),(false,[.int .i64]),(false,[.int .i64]),(false,[.slice 0]),(false,[.pointer 0]),(false,[.int .i64]),(false,[.int .i64])] [.slice none 0 0,vI 0,vI 0,.slice none 0 0,.pointer (some a1),vI 0,vI 0] <| fun p2 l3 l4 n5 n6 p7 l8 l9 p10 n11 n12 =>
 T.need (((0:Int)≤n12)∧((n12≤(s0.size:Int))∧((s0.size:Int)≤(s0.size:Int)))) <|
 T.call Tryz.prog 82 [.string (ByteArray.extract s0 (Int.toNat n12) (Int.toNat (s0.size:Int))),.string ⟨#[9,13,32]⟩] false [(false,[.int .i64])] <| fun n13 =>
 cond ((IntKind.wrap .i64 (n12+n13))==(s0.size:Int))
 (T.ret (.tuple #[.slice p7 l8 l9,vI 0,vI 0]))
 (T.need (((0:Int)≤(IntKind.wrap .i64 (n12+n13)))∧((IntKind.wrap .i64 (n12+n13))<(s0.size:Int))) <|
 cond ((sbyte s0 (IntKind.wrap .i64 (n12+n13)))==(59:Int))
 (T.ret (.tuple #[.slice p7 l8 l9,vI 0,vI 0]))
 (T.osome p10 <| fun a14 =>
 T.stores a14 [vI 0,.string ⟨#[]⟩,.int .u32 0,vI (IntKind.wrap .i64 (n12+n13))] <|
 T.need (((0:Int)≤(IntKind.wrap .i64 (n12+n13)))∧((IntKind.wrap .i64 (n12+n13))<(s0.size:Int))) <|
 T.need (((0:Int)≤(IntKind.wrap .i64 (n12+n13)))∧(((IntKind.wrap .i64 (n12+n13))≤(s0.size:Int))∧((s0.size:Int)≤(s0.size:Int)))) <|
 T.call Tryz.prog 82 [.string (ByteArray.extract s0 (Int.toNat (IntKind.wrap .i64 (n12+n13))) (Int.toNat (s0.size:Int))),.string ⟨#[97,98,99,100,101,102,103,104,105,106,107,108,109,110,111,112,113,114,115,116,117,118,119,120,121,122,65,66,67,68,69,70,71,72,73,74,75,76,77,78,79,80,81,82,83,84,85,86,87,88,89,90,95]⟩] false [(false,[.int .i64])] <| fun n15 =>
 cond (decide (n15>(0:Int)))
 (T.osome p10 <| fun a16 =>
 T.stores a16 [vI 1] <|
 T.need (((0:Int)≤(IntKind.wrap .i64 (n12+n13)))∧(((IntKind.wrap .i64 (n12+n13))≤(s0.size:Int))∧((s0.size:Int)≤(s0.size:Int)))) <|
 T.call Tryz.prog 82 [.string (ByteArray.extract s0 (Int.toNat (IntKind.wrap .i64 (n12+n13))) (Int.toNat (s0.size:Int))),.string ⟨#[97,98,99,100,101,102,103,104,105,106,107,108,109,110,111,112,113,114,115,116,117,118,119,120,121,122,65,66,67,68,69,70,71,72,73,74,75,76,77,78,79,80,81,82,83,84,85,86,87,88,89,90,95,48,49,50,51,52,53,54,55,56,57]⟩] false [(false,[.int .i64])] <| fun n17 =>
 cond (decide (n17>(32:Int)))
 (T.ret (.tuple #[.slice none 0 0,vI (IntKind.wrap .i64 (n12+n13)),vI 20]))
 (T.need (((0:Int)≤(IntKind.wrap .i64 (n12+n13)))∧(((IntKind.wrap .i64 (n12+n13))≤(IntKind.wrap .i64 ((IntKind.wrap .i64 (n12+n13))+n17)))∧((IntKind.wrap .i64 ((IntKind.wrap .i64 (n12+n13))+n17))≤(s0.size:Int)))) <|
 T.osome p10 <| fun a18 =>
 T.stores (a18.add 1) [.string (ByteArray.extract s0 (Int.toNat (IntKind.wrap .i64 (n12+n13))) (Int.toNat (IntKind.wrap .i64 ((IntKind.wrap .i64 (n12+n13))+n17))))] <|
 T.osome p10 <| fun a19 =>
 T.loads a19 [.int .i64,.string,.int .u32,.int .i64] <| fun n20 s21 n22 n23 =>
 T.sem Tryz.prog (Instr.buildSlice 174 1 #[(0,.agg #[vI n20,.string s21,.int .u32 n22,vI n23])]) false [(false,[.slice 0])] <| fun p24 l25 l26 =>
 T.sem Tryz.prog (Builtin.append_ #[174,174] 174 #[.slice p7 l8 l9,.slice p24 l25 l26]) false [(false,[.slice 0])] <| fun p27 l28 l29 =>
 T.again 0 [.slice p2 l3 l4,vI n5,vI n6,.slice p27 l28 l29,.pointer p10,vI n17,vI (IntKind.wrap .i64 ((IntKind.wrap .i64 (n12+n13))+n17))]))
 (T.need (((0:Int)≤(IntKind.wrap .i64 (n12+n13)))∧(((IntKind.wrap .i64 (n12+n13))≤(s0.size:Int))∧((s0.size:Int)≤(s0.size:Int)))) <|
 T.call Tryz.prog 82 [.string (ByteArray.extract s0 (Int.toNat (IntKind.wrap .i64 (n12+n13))) (Int.toNat (s0.size:Int))),.string ⟨#[48,49,50,51,52,53,54,55,56,57]⟩] false [(false,[.int .i64])] <| fun n16 =>
 cond (decide (n16>(0:Int)))
 (T.osome p10 <| fun a17 =>
 T.stores a17 [vI 2] <|
 T.need (((0:Int)≤(IntKind.wrap .i64 (n12+n13)))∧(((IntKind.wrap .i64 (n12+n13))≤(s0.size:Int))∧((s0.size:Int)≤(s0.size:Int)))) <|
 T.call Tryz.prog 123 [.string (ByteArray.extract s0 (Int.toNat (IntKind.wrap .i64 (n12+n13))) (Int.toNat (s0.size:Int)))] true [(false,[.int .i64]),(false,[.int .u32])] <| fun n18 n19 =>
 T.osome p10 <| fun a20 =>
 T.stores (a20.add 2) [.int .u32 n19] <|
 cond (n18==(0:Int))
 (T.ret (.tuple #[.slice none 0 0,vI (IntKind.wrap .i64 (n12+n13)),vI 20]))
 (T.need (((0:Int)≤(IntKind.wrap .i64 ((IntKind.wrap .i64 (n12+n13))+n18)))∧(((IntKind.wrap .i64 ((IntKind.wrap .i64 (n12+n13))+n18))≤(s0.size:Int))∧((s0.size:Int)≤(s0.size:Int)))) <|
 T.call Tryz.prog 82 [.string (ByteArray.extract s0 (Int.toNat (IntKind.wrap .i64 ((IntKind.wrap .i64 (n12+n13))+n18))) (Int.toNat (s0.size:Int))),.string ⟨#[97,98,99,100,101,102,103,104,105,106,107,108,109,110,111,112,113,114,115,116,117,118,119,120,121,122,65,66,67,68,69,70,71,72,73,74,75,76,77,78,79,80,81,82,83,84,85,86,87,88,89,90,95,48,49,50,51,52,53,54,55,56,57]⟩] false [(false,[.int .i64])] <| fun n21 =>
 cond (decide (n21>(0:Int)))
 (T.ret (.tuple #[.slice none 0 0,vI (IntKind.wrap .i64 (n12+n13)),vI 20]))
 (T.need (((0:Int)≤(IntKind.wrap .i64 (n12+n13)))∧(((IntKind.wrap .i64 (n12+n13))≤(IntKind.wrap .i64 ((IntKind.wrap .i64 (n12+n13))+n18)))∧((IntKind.wrap .i64 ((IntKind.wrap .i64 (n12+n13))+n18))≤(s0.size:Int)))) <|
 T.osome p10 <| fun a22 =>
 T.stores (a22.add 1) [.string (ByteArray.extract s0 (Int.toNat (IntKind.wrap .i64 (n12+n13))) (Int.toNat (IntKind.wrap .i64 ((IntKind.wrap .i64 (n12+n13))+n18))))] <|
 T.osome p10 <| fun a23 =>
 T.loads a23 [.int .i64,.string,.int .u32,.int .i64] <| fun n24 s25 n26 n27 =>
 T.sem Tryz.prog (Instr.buildSlice 174 1 #[(0,.agg #[vI n24,.string s25,.int .u32 n26,vI n27])]) false [(false,[.slice 0])] <| fun p28 l29 l30 =>
 T.sem Tryz.prog (Builtin.append_ #[174,174] 174 #[.slice p7 l8 l9,.slice p28 l29 l30]) false [(false,[.slice 0])] <| fun p31 l32 l33 =>
 T.again 0 [.slice p2 l3 l4,vI n5,vI n6,.slice p31 l32 l33,.pointer p10,vI n18,vI (IntKind.wrap .i64 ((IntKind.wrap .i64 (n12+n13))+n18))])))
 (cond ((sbyte s0 (IntKind.wrap .i64 (n12+n13)))==(39:Int))
 (cond (decide ((IntKind.wrap .i64 ((s0.size:Int)-(IntKind.wrap .i64 (n12+n13))))<(3:Int)))
 (T.ret (.tuple #[.slice none 0 0,vI (IntKind.wrap .i64 (n12+n13)),vI 20]))
 (T.need (((0:Int)≤(IntKind.wrap .i64 ((IntKind.wrap .i64 (n12+n13))+(1:Int))))∧((IntKind.wrap .i64 ((IntKind.wrap .i64 (n12+n13))+(1:Int)))<(s0.size:Int))) <|
 cond (decide ((sbyte s0 (IntKind.wrap .i64 ((IntKind.wrap .i64 (n12+n13))+(1:Int))))<(32:Int)))
 (T.ret (.tuple #[.slice none 0 0,vI (IntKind.wrap .i64 (n12+n13)),vI 20]))
 (T.need (((0:Int)≤(IntKind.wrap .i64 ((IntKind.wrap .i64 (n12+n13))+(1:Int))))∧((IntKind.wrap .i64 ((IntKind.wrap .i64 (n12+n13))+(1:Int)))<(s0.size:Int))) <|
 cond (decide ((sbyte s0 (IntKind.wrap .i64 ((IntKind.wrap .i64 (n12+n13))+(1:Int))))>(126:Int)))
 (T.ret (.tuple #[.slice none 0 0,vI (IntKind.wrap .i64 (n12+n13)),vI 20]))
 (T.need (((0:Int)≤(IntKind.wrap .i64 ((IntKind.wrap .i64 (n12+n13))+(1:Int))))∧((IntKind.wrap .i64 ((IntKind.wrap .i64 (n12+n13))+(1:Int)))<(s0.size:Int))) <|
 cond ((sbyte s0 (IntKind.wrap .i64 ((IntKind.wrap .i64 (n12+n13))+(1:Int))))==(39:Int))
 (T.ret (.tuple #[.slice none 0 0,vI (IntKind.wrap .i64 (n12+n13)),vI 20]))
 (T.need (((0:Int)≤(IntKind.wrap .i64 ((IntKind.wrap .i64 (n12+n13))+(2:Int))))∧((IntKind.wrap .i64 ((IntKind.wrap .i64 (n12+n13))+(2:Int)))<(s0.size:Int))) <|
 cond ((sbyte s0 (IntKind.wrap .i64 ((IntKind.wrap .i64 (n12+n13))+(2:Int)))) != (39:Int))
 (T.ret (.tuple #[.slice none 0 0,vI (IntKind.wrap .i64 (n12+n13)),vI 20]))
 (T.need (((0:Int)≤(IntKind.wrap .i64 ((IntKind.wrap .i64 (n12+n13))+(1:Int))))∧((IntKind.wrap .i64 ((IntKind.wrap .i64 (n12+n13))+(1:Int)))<(s0.size:Int))) <|
 T.osome p10 <| fun a17 =>
 T.stores a17 [vI 2] <|
 T.osome p10 <| fun a18 =>
 T.stores (a18.add 2) [.int .u32 (IntKind.wrap .u32 (sbyte s0 (IntKind.wrap .i64 ((IntKind.wrap .i64 (n12+n13))+(1:Int)))))] <|
 T.need (((0:Int)≤(IntKind.wrap .i64 (n12+n13)))∧(((IntKind.wrap .i64 (n12+n13))≤(IntKind.wrap .i64 ((IntKind.wrap .i64 (n12+n13))+(3:Int))))∧((IntKind.wrap .i64 ((IntKind.wrap .i64 (n12+n13))+(3:Int)))≤(s0.size:Int)))) <|
 T.osome p10 <| fun a19 =>
 T.stores (a19.add 1) [.string (ByteArray.extract s0 (Int.toNat (IntKind.wrap .i64 (n12+n13))) (Int.toNat (IntKind.wrap .i64 ((IntKind.wrap .i64 (n12+n13))+(3:Int)))))] <|
 T.osome p10 <| fun a20 =>
 T.loads a20 [.int .i64,.string,.int .u32,.int .i64] <| fun n21 s22 n23 n24 =>
 T.sem Tryz.prog (Instr.buildSlice 174 1 #[(0,.agg #[vI n21,.string s22,.int .u32 n23,vI n24])]) false [(false,[.slice 0])] <| fun p25 l26 l27 =>
 T.sem Tryz.prog (Builtin.append_ #[174,174] 174 #[.slice p7 l8 l9,.slice p25 l26 l27]) false [(false,[.slice 0])] <| fun p28 l29 l30 =>
 T.again 0 [.slice p2 l3 l4,vI n5,vI n6,.slice p28 l29 l30,.pointer p10,vI 3,vI (IntKind.wrap .i64 ((IntKind.wrap .i64 (n12+n13))+(3:Int)))]))))))
 (T.call Tryz.prog 118 [.string ⟨#[58,44,40,41,43,45,42,61]⟩,.int .u8 (sbyte s0 (IntKind.wrap .i64 (n12+n13)))] false [(false,[.int .i64])] <| fun n17 =>
 cond (decide (n17≥(0:Int)))
 (T.osome p10 <| fun a18 =>
 T.stores a18 [vI 3] <|
 T.need (((0:Int)≤(IntKind.wrap .i64 (n12+n13)))∧(((IntKind.wrap .i64 (n12+n13))≤(IntKind.wrap .i64 ((IntKind.wrap .i64 (n12+n13))+(1:Int))))∧((IntKind.wrap .i64 ((IntKind.wrap .i64 (n12+n13))+(1:Int)))≤(s0.size:Int)))) <|
 T.osome p10 <| fun a19 =>
 T.stores (a19.add 1) [.string (ByteArray.extract s0 (Int.toNat (IntKind.wrap .i64 (n12+n13))) (Int.toNat (IntKind.wrap .i64 ((IntKind.wrap .i64 (n12+n13))+(1:Int)))))] <|
 T.osome p10 <| fun a20 =>
 T.loads a20 [.int .i64,.string,.int .u32,.int .i64] <| fun n21 s22 n23 n24 =>
 T.sem Tryz.prog (Instr.buildSlice 174 1 #[(0,.agg #[vI n21,.string s22,.int .u32 n23,vI n24])]) false [(false,[.slice 0])] <| fun p25 l26 l27 =>
 T.sem Tryz.prog (Builtin.append_ #[174,174] 174 #[.slice p7 l8 l9,.slice p25 l26 l27]) false [(false,[.slice 0])] <| fun p28 l29 l30 =>
 T.again 0 [.slice p2 l3 l4,vI n5,vI n6,.slice p28 l29 l30,.pointer p10,vI 1,vI (IntKind.wrap .i64 ((IntKind.wrap .i64 (n12+n13))+(1:Int)))])
 (T.ret (.tuple #[.slice none 0 0,vI (IntKind.wrap .i64 (n12+n13)),vI 20])))))))
theorem t_lex_Tokens_eq (s0:ByteArray):xfun Tryz.prog [] Tryz.f95 [.string s0]=t_lex_Tokens s0:=by kernel_rfl
end Go.Sx
