/- Trees of functions, each checked by the kernel against the code. No condition. -/
import Derived.Test.YtfkjiiapldkoeaaGreatDoorSxF
import Derived.Test.YtfkjiiapldkoeaaGreatDoorProg
import Derived.KernelRfl
set_option linter.unusedVariables false
set_option linter.unusedSimpArgs false
set_option linter.deprecated false
set_option maxRecDepth 100000
namespace Go.Sx
open Go.Proofs
def t_internal_strconv_lower (n0:Int):T :=
 T.ret (.int .u8 (IntKind.wrap .u8 (((BitVec.toNat ((BitVec.ofInt 8 n0) ||| (BitVec.ofInt 8 (32:Int)))):Nat):Int)))
theorem t_internal_strconv_lower_eq (n0:Int):xfun Tryz.prog [] Tryz.f187 [.int .u8 n0]=t_internal_strconv_lower n0:=by kernel_rfl
def t_internal_stringslite_Clone (s0:ByteArray):T :=
 cond ((s0.size:Int)==(0:Int))
 (T.ret (.string ⟨#[]⟩))
 (T.sem Tryz.prog (Instr.makeSlice 42 (vI (s0.size:Int)) (vI (s0.size:Int))) false [(false,[.slice 0])] <| fun p1 l2 l3 =>
 T.sem Tryz.prog (Builtin.copy_ #[42,9] 3 #[.slice p1 l2 l3,.string s0]) false [(false,[.int .i64])] <| fun n4 =>
 T.need (((0:Int)≤(0:Int))∧((0:Int)<(l2:Int))) <|
 T.osome p1 <| fun a5 =>
 T.sem Tryz.prog (Builtin.unsafeString_ #[311,3] 9 #[.pointer (some a5),vI (l2:Int)]) false [(false,[.string])] <| fun s6 =>
 T.ret (.string s6))
theorem t_internal_stringslite_Clone_eq (s0:ByteArray):xfun Tryz.prog [] Tryz.f200 [.string s0]=t_internal_stringslite_Clone s0:=by kernel_rfl
def t_strconv_syntaxError (s0:ByteArray) (s1:ByteArray):T :=
 T.loads ⟨4, 0, none⟩ [.interface #[("Error", 85)]] <| fun (v2 : Value) =>
 T.call Tryz.prog 200 [.string s1] false [(false,[.string])] <| fun s3 =>
 T.stable [(⟨4,0,none⟩,[v2])] <|
 cond (Sx.isAggV v2)
 (T.fail)
 (T.new [.string s0,.string s3,v2] 307 <| fun a4 =>
 T.stable [(⟨4,0,none⟩,[v2])] <|
 T.ret (.pointer (some a4)))
theorem t_strconv_syntaxError_eq (s0:ByteArray) (s1:ByteArray):xfun Tryz.prog [] Tryz.f189 [.string s0,.string s1]=t_strconv_syntaxError s0 s1:=by kernel_rfl
def t_strconv_rangeError (s0:ByteArray) (s1:ByteArray):T :=
 T.loads ⟨5, 0, none⟩ [.interface #[("Error", 85)]] <| fun (v2 : Value) =>
 T.call Tryz.prog 200 [.string s1] false [(false,[.string])] <| fun s3 =>
 T.stable [(⟨5,0,none⟩,[v2])] <|
 cond (Sx.isAggV v2)
 (T.fail)
 (T.new [.string s0,.string s3,v2] 307 <| fun a4 =>
 T.stable [(⟨5,0,none⟩,[v2])] <|
 T.ret (.pointer (some a4)))
theorem t_strconv_rangeError_eq (s0:ByteArray) (s1:ByteArray):xfun Tryz.prog [] Tryz.f190 [.string s0,.string s1]=t_strconv_rangeError s0 s1:=by kernel_rfl
def t_strconv_toError_r10 (s:ByteArray):T :=
 T.sem Tryz.prog (Sx.cmpS (BinOp.eql) 29 (Operand.tmp 11) (Operand.tmp 13) (.iface 299 (vI 1)) (.iface 299 (vI 2))) false [(false,[.bool])] <| fun b1 =>
 cond b1
 (T.call Tryz.prog 189 [.string ⟨#[80,97,114,115,101,85,105,110,116]⟩,.string s] false [(false,[.pointer 307])] <| fun p2 =>
 T.ret (.iface 301 (.pointer p2)))
 (T.sem Tryz.prog (Sx.cmpS (BinOp.eql) 29 (Operand.tmp 11) (Operand.tmp 20) (.iface 299 (vI 1)) (.iface 299 (vI 1))) false [(false,[.bool])] <| fun b2 =>
 cond b2
 (T.call Tryz.prog 190 [.string ⟨#[80,97,114,115,101,85,105,110,116]⟩,.string s] false [(false,[.pointer 307])] <| fun p3 =>
 T.ret (.iface 301 (.pointer p3)))
 (T.sem Tryz.prog (Sx.cmpS (BinOp.eql) 29 (Operand.tmp 11) (Operand.tmp 27) (.iface 299 (vI 1)) (.iface 299 (vI 3))) false [(false,[.bool])] <| fun b3 =>
 cond b3
 (T.call Tryz.prog 191 [.string ⟨#[80,97,114,115,101,85,105,110,116]⟩,.string s,vI 10] false [(false,[.pointer 307])] <| fun p4 =>
 T.ret (.iface 301 (.pointer p4)))
 (T.sem Tryz.prog (Sx.cmpS (BinOp.eql) 29 (Operand.tmp 11) (Operand.tmp 35) (.iface 299 (vI 1)) (.iface 299 (vI 4))) false [(false,[.bool])] <| fun b4 =>
 cond b4
 (T.call Tryz.prog 192 [.string ⟨#[80,97,114,115,101,85,105,110,116]⟩,.string s,vI 32] false [(false,[.pointer 307])] <| fun p5 =>
 T.ret (.iface 301 (.pointer p5)))
 (T.ret (.iface 299 (vI 1))))))
theorem t_strconv_toError_r10_eq (s:ByteArray):xfun Tryz.prog [] Tryz.f178 [.string ⟨#[80,97,114,115,101,85,105,110,116]⟩,.string s,vI 10,vI 32,.iface 299 (vI 1)]=t_strconv_toError_r10 s:=by kernel_rfl
def t_strconv_toError_s10 (s:ByteArray):T :=
 T.sem Tryz.prog (Sx.cmpS (BinOp.eql) 29 (Operand.tmp 11) (Operand.tmp 13) (.iface 299 (vI 2)) (.iface 299 (vI 2))) false [(false,[.bool])] <| fun b1 =>
 cond b1
 (T.call Tryz.prog 189 [.string ⟨#[80,97,114,115,101,85,105,110,116]⟩,.string s] false [(false,[.pointer 307])] <| fun p2 =>
 T.ret (.iface 301 (.pointer p2)))
 (T.sem Tryz.prog (Sx.cmpS (BinOp.eql) 29 (Operand.tmp 11) (Operand.tmp 20) (.iface 299 (vI 2)) (.iface 299 (vI 1))) false [(false,[.bool])] <| fun b2 =>
 cond b2
 (T.call Tryz.prog 190 [.string ⟨#[80,97,114,115,101,85,105,110,116]⟩,.string s] false [(false,[.pointer 307])] <| fun p3 =>
 T.ret (.iface 301 (.pointer p3)))
 (T.sem Tryz.prog (Sx.cmpS (BinOp.eql) 29 (Operand.tmp 11) (Operand.tmp 27) (.iface 299 (vI 2)) (.iface 299 (vI 3))) false [(false,[.bool])] <| fun b3 =>
 cond b3
 (T.call Tryz.prog 191 [.string ⟨#[80,97,114,115,101,85,105,110,116]⟩,.string s,vI 10] false [(false,[.pointer 307])] <| fun p4 =>
 T.ret (.iface 301 (.pointer p4)))
 (T.sem Tryz.prog (Sx.cmpS (BinOp.eql) 29 (Operand.tmp 11) (Operand.tmp 35) (.iface 299 (vI 2)) (.iface 299 (vI 4))) false [(false,[.bool])] <| fun b4 =>
 cond b4
 (T.call Tryz.prog 192 [.string ⟨#[80,97,114,115,101,85,105,110,116]⟩,.string s,vI 32] false [(false,[.pointer 307])] <| fun p5 =>
 T.ret (.iface 301 (.pointer p5)))
 (T.ret (.iface 299 (vI 2))))))
theorem t_strconv_toError_s10_eq (s:ByteArray):xfun Tryz.prog [] Tryz.f178 [.string ⟨#[80,97,114,115,101,85,105,110,116]⟩,.string s,vI 10,vI 32,.iface 299 (vI 2)]=t_strconv_toError_s10 s:=by kernel_rfl
def t_strconv_toError_s16 (s:ByteArray):T :=
 T.sem Tryz.prog (Sx.cmpS (BinOp.eql) 29 (Operand.tmp 11) (Operand.tmp 13) (.iface 299 (vI 2)) (.iface 299 (vI 2))) false [(false,[.bool])] <| fun b1 =>
 cond b1
 (T.call Tryz.prog 189 [.string ⟨#[80,97,114,115,101,85,105,110,116]⟩,.string s] false [(false,[.pointer 307])] <| fun p2 =>
 T.ret (.iface 301 (.pointer p2)))
 (T.sem Tryz.prog (Sx.cmpS (BinOp.eql) 29 (Operand.tmp 11) (Operand.tmp 20) (.iface 299 (vI 2)) (.iface 299 (vI 1))) false [(false,[.bool])] <| fun b2 =>
 cond b2
 (T.call Tryz.prog 190 [.string ⟨#[80,97,114,115,101,85,105,110,116]⟩,.string s] false [(false,[.pointer 307])] <| fun p3 =>
 T.ret (.iface 301 (.pointer p3)))
 (T.sem Tryz.prog (Sx.cmpS (BinOp.eql) 29 (Operand.tmp 11) (Operand.tmp 27) (.iface 299 (vI 2)) (.iface 299 (vI 3))) false [(false,[.bool])] <| fun b3 =>
 cond b3
 (T.call Tryz.prog 191 [.string ⟨#[80,97,114,115,101,85,105,110,116]⟩,.string s,vI 16] false [(false,[.pointer 307])] <| fun p4 =>
 T.ret (.iface 301 (.pointer p4)))
 (T.sem Tryz.prog (Sx.cmpS (BinOp.eql) 29 (Operand.tmp 11) (Operand.tmp 35) (.iface 299 (vI 2)) (.iface 299 (vI 4))) false [(false,[.bool])] <| fun b4 =>
 cond b4
 (T.call Tryz.prog 192 [.string ⟨#[80,97,114,115,101,85,105,110,116]⟩,.string s,vI 32] false [(false,[.pointer 307])] <| fun p5 =>
 T.ret (.iface 301 (.pointer p5)))
 (T.ret (.iface 299 (vI 2))))))
theorem t_strconv_toError_s16_eq (s:ByteArray):xfun Tryz.prog [] Tryz.f178 [.string ⟨#[80,97,114,115,101,85,105,110,116]⟩,.string s,vI 16,vI 32,.iface 299 (vI 2)]=t_strconv_toError_s16 s:=by kernel_rfl
def t_internal_strconv_ParseUint_ten (s:ByteArray):T :=
 cond ((ByteArray.toList s)==[])
 (T.ret (.tuple #[.int .u64 0,.iface 299 (vI 2)]))
 (T.need ((0:Int)≤(32:Int)) <|
 T.sem Tryz.prog (convert 9 42 (.string s)) false [(false,[.slice 0])] <| fun p1 l2 l3 =>
 T.loop [(false,[.int .u64]),(false,[.invalid]),(false,[.bool]),(false,[.int .u64]),(false,[.int .i64])] [.int .u64 0,.nilIface,.bool false,.int .u64 0,vI 0] <| fun (n4:Int) (v5:Value) (b6:Bool) (n7:Int) (n8:Int) =>
 cond (decide (n8<(l2:Int)))
 (T.need (((0:Int)≤n8)∧(n8<(l2:Int))) <|
 T.osome p1 <| fun a9 =>
 T.loads (a9.add ((Int.toNat n8)*1)) [.int .u8] <| fun n10 =>
 cond (n10==(95:Int))
 (cond (decide ((48:Int)≤n10))
 (cond (decide (n10≤(57:Int)))
 (cond (decide ((IntKind.wrap .u8 (n10-(48:Int)))≥(10:Int)))
 (T.ret (.tuple #[.int .u64 0,.iface 299 (vI 2)]))
 (cond (decide (n7≥(1844674407370955162:Int)))
 (T.ret (.tuple #[.int .u64 4294967295,.iface 299 (vI 1)]))
 (cond (decide ((IntKind.wrap .u64 ((IntKind.wrap .u64 (n7*(10:Int)))+(IntKind.wrap .u64 (IntKind.wrap .u8 (n10-(48:Int))))))<(IntKind.wrap .u64 (n7*(10:Int)))))
 (T.ret (.tuple #[.int .u64 4294967295,.iface 299 (vI 1)]))
 (cond (decide ((IntKind.wrap .u64 ((IntKind.wrap .u64 (n7*(10:Int)))+(IntKind.wrap .u64 (IntKind.wrap .u8 (n10-(48:Int))))))>(4294967295:Int)))
 (T.ret (.tuple #[.int .u64 4294967295,.iface 299 (vI 1)]))
 (T.again 0 [.int .u64 n4,v5,.bool b6,.int .u64 (IntKind.wrap .u64 ((IntKind.wrap .u64 (n7*(10:Int)))+(IntKind.wrap .u64 (IntKind.wrap .u8 (n10-(48:Int)))))),vI (IntKind.wrap .i64 (n8+(1:Int)))])))))
 (T.call Tryz.prog 187 [.int .u8 n10] false [(false,[.int .u8])] <| fun n11 =>
 cond (decide ((97:Int)≤n11))
 (T.call Tryz.prog 187 [.int .u8 n10] false [(false,[.int .u8])] <| fun n12 =>
 cond (decide (n12≤(122:Int)))
 (T.call Tryz.prog 187 [.int .u8 n10] false [(false,[.int .u8])] <| fun n13 =>
 cond (decide ((IntKind.wrap .u8 ((IntKind.wrap .u8 (n13-(97:Int)))+(10:Int)))≥(10:Int)))
 (T.ret (.tuple #[.int .u64 0,.iface 299 (vI 2)]))
 (cond (decide (n7≥(1844674407370955162:Int)))
 (T.ret (.tuple #[.int .u64 4294967295,.iface 299 (vI 1)]))
 (cond (decide ((IntKind.wrap .u64 ((IntKind.wrap .u64 (n7*(10:Int)))+(IntKind.wrap .u64 (IntKind.wrap .u8 ((IntKind.wrap .u8 (n13-(97:Int)))+(10:Int))))))<(IntKind.wrap .u64 (n7*(10:Int)))))
 (T.ret (.tuple #[.int .u64 4294967295,.iface 299 (vI 1)]))
 (cond (decide ((IntKind.wrap .u64 ((IntKind.wrap .u64 (n7*(10:Int)))+(IntKind.wrap .u64 (IntKind.wrap .u8 ((IntKind.wrap .u8 (n13-(97:Int)))+(10:Int))))))>(4294967295:Int)))
 (T.ret (.tuple #[.int .u64 4294967295,.iface 299 (vI 1)]))
 (T.again 0 [.int .u64 n4,v5,.bool b6,.int .u64 (IntKind.wrap .u64 ((IntKind.wrap .u64 (n7*(10:Int)))+(IntKind.wrap .u64 (IntKind.wrap .u8 ((IntKind.wrap .u8 (n13-(97:Int)))+(10:Int)))))),vI (IntKind.wrap .i64 (n8+(1:Int)))])))))
 (T.ret (.tuple #[.int .u64 0,.iface 299 (vI 2)])))
 (T.ret (.tuple #[.int .u64 0,.iface 299 (vI 2)]))))
 (T.call Tryz.prog 187 [.int .u8 n10] false [(false,[.int .u8])] <| fun n11 =>
 cond (decide ((97:Int)≤n11))
 (T.call Tryz.prog 187 [.int .u8 n10] false [(false,[.int .u8])] <| fun n12 =>
 cond (decide (n12≤(122:Int)))
 (T.call Tryz.prog 187 [.int .u8 n10] false [(false,[.int .u8])] <| fun n13 =>
 cond (decide ((IntKind.wrap .u8 ((IntKind.wrap .u8 (n13-(97:Int)))+(10:Int)))≥(10:Int)))
 (T.ret (.tuple #[.int .u64 0,.iface 299 (vI 2)]))
 (cond (decide (n7≥(1844674407370955162:Int)))
 (T.ret (.tuple #[.int .u64 4294967295,.iface 299 (vI 1)]))
 (cond (decide ((IntKind.wrap .u64 ((IntKind.wrap .u64 (n7*(10:Int)))+(IntKind.wrap .u64 (IntKind.wrap .u8 ((IntKind.wrap .u8 (n13-(97:Int)))+(10:Int))))))<(IntKind.wrap .u64 (n7*(10:Int)))))
 (T.ret (.tuple #[.int .u64 4294967295,.iface 299 (vI 1)]))
 (cond (decide ((IntKind.wrap .u64 ((IntKind.wrap .u64 (n7*(10:Int)))+(IntKind.wrap .u64 (IntKind.wrap .u8 ((IntKind.wrap .u8 (n13-(97:Int)))+(10:Int))))))>(4294967295:Int)))
 (T.ret (.tuple #[.int .u64 4294967295,.iface 299 (vI 1)]))
 (T.again 0 [.int .u64 n4,v5,.bool b6,.int .u64 (IntKind.wrap .u64 ((IntKind.wrap .u64 (n7*(10:Int)))+(IntKind.wrap .u64 (IntKind.wrap .u8 ((IntKind.wrap .u8 (n13-(97:Int)))+(10:Int)))))),vI (IntKind.wrap .i64 (n8+(1:Int)))])))))
 (T.ret (.tuple #[.int .u64 0,.iface 299 (vI 2)])))
 (T.ret (.tuple #[.int .u64 0,.iface 299 (vI 2)]))))
 (cond (decide ((48:Int)≤n10))
 (cond (decide (n10≤(57:Int)))
 (cond (decide ((IntKind.wrap .u8 (n10-(48:Int)))≥(10:Int)))
 (T.ret (.tuple #[.int .u64 0,.iface 299 (vI 2)]))
 (cond (decide (n7≥(1844674407370955162:Int)))
 (T.ret (.tuple #[.int .u64 4294967295,.iface 299 (vI 1)]))
 (cond (decide ((IntKind.wrap .u64 ((IntKind.wrap .u64 (n7*(10:Int)))+(IntKind.wrap .u64 (IntKind.wrap .u8 (n10-(48:Int))))))<(IntKind.wrap .u64 (n7*(10:Int)))))
 (T.ret (.tuple #[.int .u64 4294967295,.iface 299 (vI 1)]))
 (cond (decide ((IntKind.wrap .u64 ((IntKind.wrap .u64 (n7*(10:Int)))+(IntKind.wrap .u64 (IntKind.wrap .u8 (n10-(48:Int))))))>(4294967295:Int)))
 (T.ret (.tuple #[.int .u64 4294967295,.iface 299 (vI 1)]))
 (T.again 0 [.int .u64 n4,v5,.bool b6,.int .u64 (IntKind.wrap .u64 ((IntKind.wrap .u64 (n7*(10:Int)))+(IntKind.wrap .u64 (IntKind.wrap .u8 (n10-(48:Int)))))),vI (IntKind.wrap .i64 (n8+(1:Int)))])))))
 (T.call Tryz.prog 187 [.int .u8 n10] false [(false,[.int .u8])] <| fun n11 =>
 cond (decide ((97:Int)≤n11))
 (T.call Tryz.prog 187 [.int .u8 n10] false [(false,[.int .u8])] <| fun n12 =>
 cond (decide (n12≤(122:Int)))
 (T.call Tryz.prog 187 [.int .u8 n10] false [(false,[.int .u8])] <| fun n13 =>
 cond (decide ((IntKind.wrap .u8 ((IntKind.wrap .u8 (n13-(97:Int)))+(10:Int)))≥(10:Int)))
 (T.ret (.tuple #[.int .u64 0,.iface 299 (vI 2)]))
 (cond (decide (n7≥(1844674407370955162:Int)))
 (T.ret (.tuple #[.int .u64 4294967295,.iface 299 (vI 1)]))
 (cond (decide ((IntKind.wrap .u64 ((IntKind.wrap .u64 (n7*(10:Int)))+(IntKind.wrap .u64 (IntKind.wrap .u8 ((IntKind.wrap .u8 (n13-(97:Int)))+(10:Int))))))<(IntKind.wrap .u64 (n7*(10:Int)))))
 (T.ret (.tuple #[.int .u64 4294967295,.iface 299 (vI 1)]))
 (cond (decide ((IntKind.wrap .u64 ((IntKind.wrap .u64 (n7*(10:Int)))+(IntKind.wrap .u64 (IntKind.wrap .u8 ((IntKind.wrap .u8 (n13-(97:Int)))+(10:Int))))))>(4294967295:Int)))
 (T.ret (.tuple #[.int .u64 4294967295,.iface 299 (vI 1)]))
 (T.again 0 [.int .u64 n4,v5,.bool b6,.int .u64 (IntKind.wrap .u64 ((IntKind.wrap .u64 (n7*(10:Int)))+(IntKind.wrap .u64 (IntKind.wrap .u8 ((IntKind.wrap .u8 (n13-(97:Int)))+(10:Int)))))),vI (IntKind.wrap .i64 (n8+(1:Int)))])))))
 (T.ret (.tuple #[.int .u64 0,.iface 299 (vI 2)])))
 (T.ret (.tuple #[.int .u64 0,.iface 299 (vI 2)]))))
 (T.call Tryz.prog 187 [.int .u8 n10] false [(false,[.int .u8])] <| fun n11 =>
 cond (decide ((97:Int)≤n11))
 (T.call Tryz.prog 187 [.int .u8 n10] false [(false,[.int .u8])] <| fun n12 =>
 cond (decide (n12≤(122:Int)))
 (T.call Tryz.prog 187 [.int .u8 n10] false [(false,[.int .u8])] <| fun n13 =>
 cond (decide ((IntKind.wrap .u8 ((IntKind.wrap .u8 (n13-(97:Int)))+(10:Int)))≥(10:Int)))
 (T.ret (.tuple #[.int .u64 0,.iface 299 (vI 2)]))
 (cond (decide (n7≥(1844674407370955162:Int)))
 (T.ret (.tuple #[.int .u64 4294967295,.iface 299 (vI 1)]))
 (cond (decide ((IntKind.wrap .u64 ((IntKind.wrap .u64 (n7*(10:Int)))+(IntKind.wrap .u64 (IntKind.wrap .u8 ((IntKind.wrap .u8 (n13-(97:Int)))+(10:Int))))))<(IntKind.wrap .u64 (n7*(10:Int)))))
 (T.ret (.tuple #[.int .u64 4294967295,.iface 299 (vI 1)]))
 (cond (decide ((IntKind.wrap .u64 ((IntKind.wrap .u64 (n7*(10:Int)))+(IntKind.wrap .u64 (IntKind.wrap .u8 ((IntKind.wrap .u8 (n13-(97:Int)))+(10:Int))))))>(4294967295:Int)))
 (T.ret (.tuple #[.int .u64 4294967295,.iface 299 (vI 1)]))
 (T.again 0 [.int .u64 n4,v5,.bool b6,.int .u64 (IntKind.wrap .u64 ((IntKind.wrap .u64 (n7*(10:Int)))+(IntKind.wrap .u64 (IntKind.wrap .u8 ((IntKind.wrap .u8 (n13-(97:Int)))+(10:Int)))))),vI (IntKind.wrap .i64 (n8+(1:Int)))])))))
 (T.ret (.tuple #[.int .u64 0,.iface 299 (vI 2)])))
 (T.ret (.tuple #[.int .u64 0,.iface 299 (vI 2)])))))
 (cond b6
 (T.call Tryz.prog 188 [.string s] false [(false,[.bool])] <| fun b9 =>
 cond (!b9)
 (T.ret (.tuple #[.int .u64 0,.iface 299 (vI 2)]))
 (T.ret (.tuple #[.int .u64 n7,.nilIface])))
 (T.ret (.tuple #[.int .u64 n7,.nilIface]))))
theorem t_internal_strconv_ParseUint_ten_eq (s:ByteArray):xfun Tryz.prog [] Tryz.f177 [.string s,vI 10,vI 32]=t_internal_strconv_ParseUint_ten s:=by kernel_rfl
def t_internal_strconv_ParseUint_hex (s:ByteArray):T :=
 cond ((ByteArray.toList s)==[])
 (T.ret (.tuple #[.int .u64 0,.iface 299 (vI 2)]))
 (T.need ((0:Int)≤(32:Int)) <|
 T.sem Tryz.prog (convert 9 42 (.string s)) false [(false,[.slice 0])] <| fun p1 l2 l3 =>
 T.loop [(false,[.int .u64]),(false,[.invalid]),(false,[.bool]),(false,[.int .u64]),(false,[.int .i64])] [.int .u64 0,.nilIface,.bool false,.int .u64 0,vI 0] <| fun (n4:Int) (v5:Value) (b6:Bool) (n7:Int) (n8:Int) =>
 cond (decide (n8<(l2:Int)))
 (T.need (((0:Int)≤n8)∧(n8<(l2:Int))) <|
 T.osome p1 <| fun a9 =>
 T.loads (a9.add ((Int.toNat n8)*1)) [.int .u8] <| fun n10 =>
 cond (n10==(95:Int))
 (cond (decide ((48:Int)≤n10))
 (cond (decide (n10≤(57:Int)))
 (cond (decide ((IntKind.wrap .u8 (n10-(48:Int)))≥(16:Int)))
 (T.ret (.tuple #[.int .u64 0,.iface 299 (vI 2)]))
 (cond (decide (n7≥(1152921504606846976:Int)))
 (T.ret (.tuple #[.int .u64 4294967295,.iface 299 (vI 1)]))
 (cond (decide ((IntKind.wrap .u64 ((IntKind.wrap .u64 (n7*(16:Int)))+(IntKind.wrap .u64 (IntKind.wrap .u8 (n10-(48:Int))))))<(IntKind.wrap .u64 (n7*(16:Int)))))
 (T.ret (.tuple #[.int .u64 4294967295,.iface 299 (vI 1)]))
 (cond (decide ((IntKind.wrap .u64 ((IntKind.wrap .u64 (n7*(16:Int)))+(IntKind.wrap .u64 (IntKind.wrap .u8 (n10-(48:Int))))))>(4294967295:Int)))
 (T.ret (.tuple #[.int .u64 4294967295,.iface 299 (vI 1)]))
 (T.again 0 [.int .u64 n4,v5,.bool b6,.int .u64 (IntKind.wrap .u64 ((IntKind.wrap .u64 (n7*(16:Int)))+(IntKind.wrap .u64 (IntKind.wrap .u8 (n10-(48:Int)))))),vI (IntKind.wrap .i64 (n8+(1:Int)))])))))
 (T.call Tryz.prog 187 [.int .u8 n10] false [(false,[.int .u8])] <| fun n11 =>
 cond (decide ((97:Int)≤n11))
 (T.call Tryz.prog 187 [.int .u8 n10] false [(false,[.int .u8])] <| fun n12 =>
 cond (decide (n12≤(122:Int)))
 (T.call Tryz.prog 187 [.int .u8 n10] false [(false,[.int .u8])] <| fun n13 =>
 cond (decide ((IntKind.wrap .u8 ((IntKind.wrap .u8 (n13-(97:Int)))+(10:Int)))≥(16:Int)))
 (T.ret (.tuple #[.int .u64 0,.iface 299 (vI 2)]))
 (cond (decide (n7≥(1152921504606846976:Int)))
 (T.ret (.tuple #[.int .u64 4294967295,.iface 299 (vI 1)]))
 (cond (decide ((IntKind.wrap .u64 ((IntKind.wrap .u64 (n7*(16:Int)))+(IntKind.wrap .u64 (IntKind.wrap .u8 ((IntKind.wrap .u8 (n13-(97:Int)))+(10:Int))))))<(IntKind.wrap .u64 (n7*(16:Int)))))
 (T.ret (.tuple #[.int .u64 4294967295,.iface 299 (vI 1)]))
 (cond (decide ((IntKind.wrap .u64 ((IntKind.wrap .u64 (n7*(16:Int)))+(IntKind.wrap .u64 (IntKind.wrap .u8 ((IntKind.wrap .u8 (n13-(97:Int)))+(10:Int))))))>(4294967295:Int)))
 (T.ret (.tuple #[.int .u64 4294967295,.iface 299 (vI 1)]))
 (T.again 0 [.int .u64 n4,v5,.bool b6,.int .u64 (IntKind.wrap .u64 ((IntKind.wrap .u64 (n7*(16:Int)))+(IntKind.wrap .u64 (IntKind.wrap .u8 ((IntKind.wrap .u8 (n13-(97:Int)))+(10:Int)))))),vI (IntKind.wrap .i64 (n8+(1:Int)))])))))
 (T.ret (.tuple #[.int .u64 0,.iface 299 (vI 2)])))
 (T.ret (.tuple #[.int .u64 0,.iface 299 (vI 2)]))))
 (T.call Tryz.prog 187 [.int .u8 n10] false [(false,[.int .u8])] <| fun n11 =>
 cond (decide ((97:Int)≤n11))
 (T.call Tryz.prog 187 [.int .u8 n10] false [(false,[.int .u8])] <| fun n12 =>
 cond (decide (n12≤(122:Int)))
 (T.call Tryz.prog 187 [.int .u8 n10] false [(false,[.int .u8])] <| fun n13 =>
 cond (decide ((IntKind.wrap .u8 ((IntKind.wrap .u8 (n13-(97:Int)))+(10:Int)))≥(16:Int)))
 (T.ret (.tuple #[.int .u64 0,.iface 299 (vI 2)]))
 (cond (decide (n7≥(1152921504606846976:Int)))
 (T.ret (.tuple #[.int .u64 4294967295,.iface 299 (vI 1)]))
 (cond (decide ((IntKind.wrap .u64 ((IntKind.wrap .u64 (n7*(16:Int)))+(IntKind.wrap .u64 (IntKind.wrap .u8 ((IntKind.wrap .u8 (n13-(97:Int)))+(10:Int))))))<(IntKind.wrap .u64 (n7*(16:Int)))))
 (T.ret (.tuple #[.int .u64 4294967295,.iface 299 (vI 1)]))
 (cond (decide ((IntKind.wrap .u64 ((IntKind.wrap .u64 (n7*(16:Int)))+(IntKind.wrap .u64 (IntKind.wrap .u8 ((IntKind.wrap .u8 (n13-(97:Int)))+(10:Int))))))>(4294967295:Int)))
 (T.ret (.tuple #[.int .u64 4294967295,.iface 299 (vI 1)]))
 (T.again 0 [.int .u64 n4,v5,.bool b6,.int .u64 (IntKind.wrap .u64 ((IntKind.wrap .u64 (n7*(16:Int)))+(IntKind.wrap .u64 (IntKind.wrap .u8 ((IntKind.wrap .u8 (n13-(97:Int)))+(10:Int)))))),vI (IntKind.wrap .i64 (n8+(1:Int)))])))))
 (T.ret (.tuple #[.int .u64 0,.iface 299 (vI 2)])))
 (T.ret (.tuple #[.int .u64 0,.iface 299 (vI 2)]))))
 (cond (decide ((48:Int)≤n10))
 (cond (decide (n10≤(57:Int)))
 (cond (decide ((IntKind.wrap .u8 (n10-(48:Int)))≥(16:Int)))
 (T.ret (.tuple #[.int .u64 0,.iface 299 (vI 2)]))
 (cond (decide (n7≥(1152921504606846976:Int)))
 (T.ret (.tuple #[.int .u64 4294967295,.iface 299 (vI 1)]))
 (cond (decide ((IntKind.wrap .u64 ((IntKind.wrap .u64 (n7*(16:Int)))+(IntKind.wrap .u64 (IntKind.wrap .u8 (n10-(48:Int))))))<(IntKind.wrap .u64 (n7*(16:Int)))))
 (T.ret (.tuple #[.int .u64 4294967295,.iface 299 (vI 1)]))
 (cond (decide ((IntKind.wrap .u64 ((IntKind.wrap .u64 (n7*(16:Int)))+(IntKind.wrap .u64 (IntKind.wrap .u8 (n10-(48:Int))))))>(4294967295:Int)))
 (T.ret (.tuple #[.int .u64 4294967295,.iface 299 (vI 1)]))
 (T.again 0 [.int .u64 n4,v5,.bool b6,.int .u64 (IntKind.wrap .u64 ((IntKind.wrap .u64 (n7*(16:Int)))+(IntKind.wrap .u64 (IntKind.wrap .u8 (n10-(48:Int)))))),vI (IntKind.wrap .i64 (n8+(1:Int)))])))))
 (T.call Tryz.prog 187 [.int .u8 n10] false [(false,[.int .u8])] <| fun n11 =>
 cond (decide ((97:Int)≤n11))
 (T.call Tryz.prog 187 [.int .u8 n10] false [(false,[.int .u8])] <| fun n12 =>
 cond (decide (n12≤(122:Int)))
 (T.call Tryz.prog 187 [.int .u8 n10] false [(false,[.int .u8])] <| fun n13 =>
 cond (decide ((IntKind.wrap .u8 ((IntKind.wrap .u8 (n13-(97:Int)))+(10:Int)))≥(16:Int)))
 (T.ret (.tuple #[.int .u64 0,.iface 299 (vI 2)]))
 (cond (decide (n7≥(1152921504606846976:Int)))
 (T.ret (.tuple #[.int .u64 4294967295,.iface 299 (vI 1)]))
 (cond (decide ((IntKind.wrap .u64 ((IntKind.wrap .u64 (n7*(16:Int)))+(IntKind.wrap .u64 (IntKind.wrap .u8 ((IntKind.wrap .u8 (n13-(97:Int)))+(10:Int))))))<(IntKind.wrap .u64 (n7*(16:Int)))))
 (T.ret (.tuple #[.int .u64 4294967295,.iface 299 (vI 1)]))
 (cond (decide ((IntKind.wrap .u64 ((IntKind.wrap .u64 (n7*(16:Int)))+(IntKind.wrap .u64 (IntKind.wrap .u8 ((IntKind.wrap .u8 (n13-(97:Int)))+(10:Int))))))>(4294967295:Int)))
 (T.ret (.tuple #[.int .u64 4294967295,.iface 299 (vI 1)]))
 (T.again 0 [.int .u64 n4,v5,.bool b6,.int .u64 (IntKind.wrap .u64 ((IntKind.wrap .u64 (n7*(16:Int)))+(IntKind.wrap .u64 (IntKind.wrap .u8 ((IntKind.wrap .u8 (n13-(97:Int)))+(10:Int)))))),vI (IntKind.wrap .i64 (n8+(1:Int)))])))))
 (T.ret (.tuple #[.int .u64 0,.iface 299 (vI 2)])))
 (T.ret (.tuple #[.int .u64 0,.iface 299 (vI 2)]))))
 (T.call Tryz.prog 187 [.int .u8 n10] false [(false,[.int .u8])] <| fun n11 =>
 cond (decide ((97:Int)≤n11))
 (T.call Tryz.prog 187 [.int .u8 n10] false [(false,[.int .u8])] <| fun n12 =>
 cond (decide (n12≤(122:Int)))
 (T.call Tryz.prog 187 [.int .u8 n10] false [(false,[.int .u8])] <| fun n13 =>
 cond (decide ((IntKind.wrap .u8 ((IntKind.wrap .u8 (n13-(97:Int)))+(10:Int)))≥(16:Int)))
 (T.ret (.tuple #[.int .u64 0,.iface 299 (vI 2)]))
 (cond (decide (n7≥(1152921504606846976:Int)))
 (T.ret (.tuple #[.int .u64 4294967295,.iface 299 (vI 1)]))
 (cond (decide ((IntKind.wrap .u64 ((IntKind.wrap .u64 (n7*(16:Int)))+(IntKind.wrap .u64 (IntKind.wrap .u8 ((IntKind.wrap .u8 (n13-(97:Int)))+(10:Int))))))<(IntKind.wrap .u64 (n7*(16:Int)))))
 (T.ret (.tuple #[.int .u64 4294967295,.iface 299 (vI 1)]))
 (cond (decide ((IntKind.wrap .u64 ((IntKind.wrap .u64 (n7*(16:Int)))+(IntKind.wrap .u64 (IntKind.wrap .u8 ((IntKind.wrap .u8 (n13-(97:Int)))+(10:Int))))))>(4294967295:Int)))
 (T.ret (.tuple #[.int .u64 4294967295,.iface 299 (vI 1)]))
 (T.again 0 [.int .u64 n4,v5,.bool b6,.int .u64 (IntKind.wrap .u64 ((IntKind.wrap .u64 (n7*(16:Int)))+(IntKind.wrap .u64 (IntKind.wrap .u8 ((IntKind.wrap .u8 (n13-(97:Int)))+(10:Int)))))),vI (IntKind.wrap .i64 (n8+(1:Int)))])))))
 (T.ret (.tuple #[.int .u64 0,.iface 299 (vI 2)])))
 (T.ret (.tuple #[.int .u64 0,.iface 299 (vI 2)])))))
 (cond b6
 (T.call Tryz.prog 188 [.string s] false [(false,[.bool])] <| fun b9 =>
 cond (!b9)
 (T.ret (.tuple #[.int .u64 0,.iface 299 (vI 2)]))
 (T.ret (.tuple #[.int .u64 n7,.nilIface])))
 (T.ret (.tuple #[.int .u64 n7,.nilIface]))))
theorem t_internal_strconv_ParseUint_hex_eq (s:ByteArray):xfun Tryz.prog [] Tryz.f177 [.string s,vI 16,vI 32]=t_internal_strconv_ParseUint_hex s:=by kernel_rfl
def t_strconv_ParseUint_ten (s:ByteArray):T :=
 T.call Tryz.prog 177 [.string s, vI 10, vI 32] true [(false, [.int .u64]), (false, [.interface #[("Error", 85)]])] <| fun (n1 : Int) (v2 : Value) =>
 T.sem Tryz.prog (Sx.cmpS (BinOp.neq) 29 (Operand.tmp 17) (Operand.const Value.nilIface) v2 .nilIface) false [(false,[.bool])] <| fun b3 =>
 cond b3
 (T.call Tryz.prog 178 [.string ⟨#[80, 97, 114, 115, 101, 85, 105, 110, 116]⟩, .string s, vI 10, vI 32, v2] false [(false, [.interface #[("Error", 85)]])] <| fun (v4 : Value) =>
 T.ret (.tuple #[.int .u64 n1,v4]))
 (T.ret (.tuple #[.int .u64 n1,.nilIface]))
theorem t_strconv_ParseUint_ten_eq (s:ByteArray):xfun Tryz.prog [] Tryz.f150 [.string s,vI 10,vI 32]=t_strconv_ParseUint_ten s:=by kernel_rfl
def t_strconv_ParseUint_hex (s:ByteArray):T :=
 T.call Tryz.prog 177 [.string s, vI 16, vI 32] true [(false, [.int .u64]), (false, [.interface #[("Error", 85)]])] <| fun (n1 : Int) (v2 : Value) =>
 T.sem Tryz.prog (Sx.cmpS (BinOp.neq) 29 (Operand.tmp 17) (Operand.const Value.nilIface) v2 .nilIface) false [(false,[.bool])] <| fun b3 =>
 cond b3
 (T.call Tryz.prog 178 [.string ⟨#[80, 97, 114, 115, 101, 85, 105, 110, 116]⟩, .string s, vI 16, vI 32, v2] false [(false, [.interface #[("Error", 85)]])] <| fun (v4 : Value) =>
 T.ret (.tuple #[.int .u64 n1,v4]))
 (T.ret (.tuple #[.int .u64 n1,.nilIface]))
theorem t_strconv_ParseUint_hex_eq (s:ByteArray):xfun Tryz.prog [] Tryz.f150 [.string s,vI 16,vI 32]=t_strconv_ParseUint_hex s:=by kernel_rfl
end Go.Sx
