/- Trees of functions, each checked by the kernel against the code. No condition. -/
import Derived.Test.YtfkjiiapldkoeaaGreatDoorSxF
import Derived.Test.YtfkjiiapldkoeaaGreatDoorProg
import Derived.KernelRfl
set_option linter.unusedVariables false
set_option linter.unusedSimpArgs false
set_option linter.deprecated false
set_option maxRecDepth 100000
namespace Go.Sx
open Go.Proofs
def kd (a:Int):T :=
 T.ret (.int .u8 (IntKind.wrap .u8 (((BitVec.toNat ((BitVec.ofInt 8 a) ||| (BitVec.ofInt 8 (32:Int)))):Nat):Int)))
theorem iF (a:Int):aX Tryz.prog [] Tryz.f187 [.int .u8 a]=kd a:=by kernel_rfl
def dP (a:ByteArray):T :=
 cond ((a.size:Int)==(0:Int))
 (T.ret (.string ⟨#[]⟩))
 (T.aY Tryz.prog (Instr.makeSlice 42 (vI (a.size:Int)) (vI (a.size:Int))) false [(false,[.slice 0])] fun b c d =>
 T.aY Tryz.prog (Builtin.copy_ #[42,9] 3 #[.slice b c d,.string a]) false [(false,[.int .i64])] fun e =>
 T.need (((0:Int)≤(0:Int))∧((0:Int)<(c:Int))) <|
 T.au b fun f =>
 T.aY Tryz.prog (Builtin.unsafeString_ #[311,3] 9 #[.pointer (some f),vI (c:Int)]) false [(false,[.string])] fun g =>
 T.ret (.string g))
theorem fY (a:ByteArray):aX Tryz.prog [] Tryz.f200 [.string a]=dP a:=by kernel_rfl
def ga (a:ByteArray) (b:ByteArray):T :=
 T.ae ⟨4, 0, none⟩ [.interface #[("Error", 85)]] fun (c : Value) =>
 T.call Tryz.prog 200 [.string b] false [(false,[.string])] fun d =>
 T.aR [(⟨4,0,none⟩,[c])] <|
 cond (Sx.eF c)
 (T.fail)
 (T.new [.string a,.string d,c] 307 fun e =>
 T.aR [(⟨4,0,none⟩,[c])] <|
 T.ret (.pointer (some e)))
theorem j4 (a:ByteArray) (b:ByteArray):aX Tryz.prog [] Tryz.f189 [.string a,.string b]=ga a b:=by kernel_rfl
def gS (a:ByteArray) (b:ByteArray):T :=
 T.ae ⟨5, 0, none⟩ [.interface #[("Error", 85)]] fun (c : Value) =>
 T.call Tryz.prog 200 [.string b] false [(false,[.string])] fun d =>
 T.aR [(⟨5,0,none⟩,[c])] <|
 cond (Sx.eF c)
 (T.fail)
 (T.new [.string a,.string d,c] 307 fun e =>
 T.aR [(⟨5,0,none⟩,[c])] <|
 T.ret (.pointer (some e)))
theorem kt (a:ByteArray) (b:ByteArray):aX Tryz.prog [] Tryz.f190 [.string a,.string b]=gS a b:=by kernel_rfl
def gD (a:ByteArray):T :=
 T.aY Tryz.prog (Sx.bM (BinOp.eql) 29 (Operand.tmp 11) (Operand.tmp 13) (.iface 299 (vI 1)) (.iface 299 (vI 2))) false [(false,[.bool])] fun b =>
 cond b
 (T.call Tryz.prog 189 [.string ⟨#[80,97,114,115,101,85,105,110,116]⟩,.string a] false [(false,[.pointer 307])] fun c =>
 T.ret (.iface 301 (.pointer c)))
 (T.aY Tryz.prog (Sx.bM (BinOp.eql) 29 (Operand.tmp 11) (Operand.tmp 20) (.iface 299 (vI 1)) (.iface 299 (vI 1))) false [(false,[.bool])] fun c =>
 cond c
 (T.call Tryz.prog 190 [.string ⟨#[80,97,114,115,101,85,105,110,116]⟩,.string a] false [(false,[.pointer 307])] fun d =>
 T.ret (.iface 301 (.pointer d)))
 (T.aY Tryz.prog (Sx.bM (BinOp.eql) 29 (Operand.tmp 11) (Operand.tmp 27) (.iface 299 (vI 1)) (.iface 299 (vI 3))) false [(false,[.bool])] fun d =>
 cond d
 (T.call Tryz.prog 191 [.string ⟨#[80,97,114,115,101,85,105,110,116]⟩,.string a,vI 10] false [(false,[.pointer 307])] fun e =>
 T.ret (.iface 301 (.pointer e)))
 (T.aY Tryz.prog (Sx.bM (BinOp.eql) 29 (Operand.tmp 11) (Operand.tmp 35) (.iface 299 (vI 1)) (.iface 299 (vI 4))) false [(false,[.bool])] fun e =>
 cond e
 (T.call Tryz.prog 192 [.string ⟨#[80,97,114,115,101,85,105,110,116]⟩,.string a,vI 32] false [(false,[.pointer 307])] fun f =>
 T.ret (.iface 301 (.pointer f)))
 (T.ret (.iface 299 (vI 1))))))
theorem j5 (a:ByteArray):aX Tryz.prog [] Tryz.f178 [.string ⟨#[80,97,114,115,101,85,105,110,116]⟩,.string a,vI 10,vI 32,.iface 299 (vI 1)]=gD a:=by kernel_rfl
def gj (a:ByteArray):T :=
 T.aY Tryz.prog (Sx.bM (BinOp.eql) 29 (Operand.tmp 11) (Operand.tmp 13) (.iface 299 (vI 2)) (.iface 299 (vI 2))) false [(false,[.bool])] fun b =>
 cond b
 (T.call Tryz.prog 189 [.string ⟨#[80,97,114,115,101,85,105,110,116]⟩,.string a] false [(false,[.pointer 307])] fun c =>
 T.ret (.iface 301 (.pointer c)))
 (T.aY Tryz.prog (Sx.bM (BinOp.eql) 29 (Operand.tmp 11) (Operand.tmp 20) (.iface 299 (vI 2)) (.iface 299 (vI 1))) false [(false,[.bool])] fun c =>
 cond c
 (T.call Tryz.prog 190 [.string ⟨#[80,97,114,115,101,85,105,110,116]⟩,.string a] false [(false,[.pointer 307])] fun d =>
 T.ret (.iface 301 (.pointer d)))
 (T.aY Tryz.prog (Sx.bM (BinOp.eql) 29 (Operand.tmp 11) (Operand.tmp 27) (.iface 299 (vI 2)) (.iface 299 (vI 3))) false [(false,[.bool])] fun d =>
 cond d
 (T.call Tryz.prog 191 [.string ⟨#[80,97,114,115,101,85,105,110,116]⟩,.string a,vI 10] false [(false,[.pointer 307])] fun e =>
 T.ret (.iface 301 (.pointer e)))
 (T.aY Tryz.prog (Sx.bM (BinOp.eql) 29 (Operand.tmp 11) (Operand.tmp 35) (.iface 299 (vI 2)) (.iface 299 (vI 4))) false [(false,[.bool])] fun e =>
 cond e
 (T.call Tryz.prog 192 [.string ⟨#[80,97,114,115,101,85,105,110,116]⟩,.string a,vI 32] false [(false,[.pointer 307])] fun f =>
 T.ret (.iface 301 (.pointer f)))
 (T.ret (.iface 299 (vI 2))))))
theorem j2 (a:ByteArray):aX Tryz.prog [] Tryz.f178 [.string ⟨#[80,97,114,115,101,85,105,110,116]⟩,.string a,vI 10,vI 32,.iface 299 (vI 2)]=gj a:=by kernel_rfl
def gu (a:ByteArray):T :=
 T.aY Tryz.prog (Sx.bM (BinOp.eql) 29 (Operand.tmp 11) (Operand.tmp 13) (.iface 299 (vI 2)) (.iface 299 (vI 2))) false [(false,[.bool])] fun b =>
 cond b
 (T.call Tryz.prog 189 [.string ⟨#[80,97,114,115,101,85,105,110,116]⟩,.string a] false [(false,[.pointer 307])] fun c =>
 T.ret (.iface 301 (.pointer c)))
 (T.aY Tryz.prog (Sx.bM (BinOp.eql) 29 (Operand.tmp 11) (Operand.tmp 20) (.iface 299 (vI 2)) (.iface 299 (vI 1))) false [(false,[.bool])] fun c =>
 cond c
 (T.call Tryz.prog 190 [.string ⟨#[80,97,114,115,101,85,105,110,116]⟩,.string a] false [(false,[.pointer 307])] fun d =>
 T.ret (.iface 301 (.pointer d)))
 (T.aY Tryz.prog (Sx.bM (BinOp.eql) 29 (Operand.tmp 11) (Operand.tmp 27) (.iface 299 (vI 2)) (.iface 299 (vI 3))) false [(false,[.bool])] fun d =>
 cond d
 (T.call Tryz.prog 191 [.string ⟨#[80,97,114,115,101,85,105,110,116]⟩,.string a,vI 16] false [(false,[.pointer 307])] fun e =>
 T.ret (.iface 301 (.pointer e)))
 (T.aY Tryz.prog (Sx.bM (BinOp.eql) 29 (Operand.tmp 11) (Operand.tmp 35) (.iface 299 (vI 2)) (.iface 299 (vI 4))) false [(false,[.bool])] fun e =>
 cond e
 (T.call Tryz.prog 192 [.string ⟨#[80,97,114,115,101,85,105,110,116]⟩,.string a,vI 32] false [(false,[.pointer 307])] fun f =>
 T.ret (.iface 301 (.pointer f)))
 (T.ret (.iface 299 (vI 2))))))
theorem j' (a:ByteArray):aX Tryz.prog [] Tryz.f178 [.string ⟨#[80,97,114,115,101,85,105,110,116]⟩,.string a,vI 16,vI 32,.iface 299 (vI 2)]=gu a:=by kernel_rfl
def dm (a:ByteArray):T :=
 cond ((ByteArray.toList a)==[])
 (T.ret (.tuple #[.int .u64 0,.iface 299 (vI 2)]))
 (T.need ((0:Int)≤(32:Int)) <|
 T.aY Tryz.prog (convert 9 42 (.string a)) false [(false,[.slice 0])] fun b c d =>
 T.loop [(false,[.int .u64]),(false,[.invalid]),(false,[.bool]),(false,[.int .u64]),(false,[.int .i64])] [.int .u64 0,.nilIface,.bool false,.int .u64 0,vI 0] fun (e:Int) (f:Value) (g:Bool) (h:Int) (i:Int) =>
 cond (decide (i<(c:Int)))
 (T.need (((0:Int)≤i)∧(i<(c:Int))) <|
 T.au b fun j =>
 T.ae (j.add ((Int.toNat i)*1)) [.int .u8] fun k =>
 cond (k==(95:Int))
 (cond (decide ((48:Int)≤k))
 (cond (decide (k≤(57:Int)))
 (cond (decide ((IntKind.wrap .u8 (k-(48:Int)))≥(10:Int)))
 (T.ret (.tuple #[.int .u64 0,.iface 299 (vI 2)]))
 (cond (decide (h≥(1844674407370955162:Int)))
 (T.ret (.tuple #[.int .u64 4294967295,.iface 299 (vI 1)]))
 (cond (decide ((IntKind.wrap .u64 ((IntKind.wrap .u64 (h*(10:Int)))+(IntKind.wrap .u64 (IntKind.wrap .u8 (k-(48:Int))))))<(IntKind.wrap .u64 (h*(10:Int)))))
 (T.ret (.tuple #[.int .u64 4294967295,.iface 299 (vI 1)]))
 (cond (decide ((IntKind.wrap .u64 ((IntKind.wrap .u64 (h*(10:Int)))+(IntKind.wrap .u64 (IntKind.wrap .u8 (k-(48:Int))))))>(4294967295:Int)))
 (T.ret (.tuple #[.int .u64 4294967295,.iface 299 (vI 1)]))
 (T.again 0 [.int .u64 e,f,.bool g,.int .u64 (IntKind.wrap .u64 ((IntKind.wrap .u64 (h*(10:Int)))+(IntKind.wrap .u64 (IntKind.wrap .u8 (k-(48:Int)))))),vI (IntKind.wrap .i64 (i+(1:Int)))])))))
 (T.call Tryz.prog 187 [.int .u8 k] false [(false,[.int .u8])] fun l =>
 cond (decide ((97:Int)≤l))
 (T.call Tryz.prog 187 [.int .u8 k] false [(false,[.int .u8])] fun m =>
 cond (decide (m≤(122:Int)))
 (T.call Tryz.prog 187 [.int .u8 k] false [(false,[.int .u8])] fun n =>
 cond (decide ((IntKind.wrap .u8 ((IntKind.wrap .u8 (n-(97:Int)))+(10:Int)))≥(10:Int)))
 (T.ret (.tuple #[.int .u64 0,.iface 299 (vI 2)]))
 (cond (decide (h≥(1844674407370955162:Int)))
 (T.ret (.tuple #[.int .u64 4294967295,.iface 299 (vI 1)]))
 (cond (decide ((IntKind.wrap .u64 ((IntKind.wrap .u64 (h*(10:Int)))+(IntKind.wrap .u64 (IntKind.wrap .u8 ((IntKind.wrap .u8 (n-(97:Int)))+(10:Int))))))<(IntKind.wrap .u64 (h*(10:Int)))))
 (T.ret (.tuple #[.int .u64 4294967295,.iface 299 (vI 1)]))
 (cond (decide ((IntKind.wrap .u64 ((IntKind.wrap .u64 (h*(10:Int)))+(IntKind.wrap .u64 (IntKind.wrap .u8 ((IntKind.wrap .u8 (n-(97:Int)))+(10:Int))))))>(4294967295:Int)))
 (T.ret (.tuple #[.int .u64 4294967295,.iface 299 (vI 1)]))
 (T.again 0 [.int .u64 e,f,.bool g,.int .u64 (IntKind.wrap .u64 ((IntKind.wrap .u64 (h*(10:Int)))+(IntKind.wrap .u64 (IntKind.wrap .u8 ((IntKind.wrap .u8 (n-(97:Int)))+(10:Int)))))),vI (IntKind.wrap .i64 (i+(1:Int)))])))))
 (T.ret (.tuple #[.int .u64 0,.iface 299 (vI 2)])))
 (T.ret (.tuple #[.int .u64 0,.iface 299 (vI 2)]))))
 (T.call Tryz.prog 187 [.int .u8 k] false [(false,[.int .u8])] fun l =>
 cond (decide ((97:Int)≤l))
 (T.call Tryz.prog 187 [.int .u8 k] false [(false,[.int .u8])] fun m =>
 cond (decide (m≤(122:Int)))
 (T.call Tryz.prog 187 [.int .u8 k] false [(false,[.int .u8])] fun n =>
 cond (decide ((IntKind.wrap .u8 ((IntKind.wrap .u8 (n-(97:Int)))+(10:Int)))≥(10:Int)))
 (T.ret (.tuple #[.int .u64 0,.iface 299 (vI 2)]))
 (cond (decide (h≥(1844674407370955162:Int)))
 (T.ret (.tuple #[.int .u64 4294967295,.iface 299 (vI 1)]))
 (cond (decide ((IntKind.wrap .u64 ((IntKind.wrap .u64 (h*(10:Int)))+(IntKind.wrap .u64 (IntKind.wrap .u8 ((IntKind.wrap .u8 (n-(97:Int)))+(10:Int))))))<(IntKind.wrap .u64 (h*(10:Int)))))
 (T.ret (.tuple #[.int .u64 4294967295,.iface 299 (vI 1)]))
 (cond (decide ((IntKind.wrap .u64 ((IntKind.wrap .u64 (h*(10:Int)))+(IntKind.wrap .u64 (IntKind.wrap .u8 ((IntKind.wrap .u8 (n-(97:Int)))+(10:Int))))))>(4294967295:Int)))
 (T.ret (.tuple #[.int .u64 4294967295,.iface 299 (vI 1)]))
 (T.again 0 [.int .u64 e,f,.bool g,.int .u64 (IntKind.wrap .u64 ((IntKind.wrap .u64 (h*(10:Int)))+(IntKind.wrap .u64 (IntKind.wrap .u8 ((IntKind.wrap .u8 (n-(97:Int)))+(10:Int)))))),vI (IntKind.wrap .i64 (i+(1:Int)))])))))
 (T.ret (.tuple #[.int .u64 0,.iface 299 (vI 2)])))
 (T.ret (.tuple #[.int .u64 0,.iface 299 (vI 2)]))))
 (cond (decide ((48:Int)≤k))
 (cond (decide (k≤(57:Int)))
 (cond (decide ((IntKind.wrap .u8 (k-(48:Int)))≥(10:Int)))
 (T.ret (.tuple #[.int .u64 0,.iface 299 (vI 2)]))
 (cond (decide (h≥(1844674407370955162:Int)))
 (T.ret (.tuple #[.int .u64 4294967295,.iface 299 (vI 1)]))
 (cond (decide ((IntKind.wrap .u64 ((IntKind.wrap .u64 (h*(10:Int)))+(IntKind.wrap .u64 (IntKind.wrap .u8 (k-(48:Int))))))<(IntKind.wrap .u64 (h*(10:Int)))))
 (T.ret (.tuple #[.int .u64 4294967295,.iface 299 (vI 1)]))
 (cond (decide ((IntKind.wrap .u64 ((IntKind.wrap .u64 (h*(10:Int)))+(IntKind.wrap .u64 (IntKind.wrap .u8 (k-(48:Int))))))>(4294967295:Int)))
 (T.ret (.tuple #[.int .u64 4294967295,.iface 299 (vI 1)]))
 (T.again 0 [.int .u64 e,f,.bool g,.int .u64 (IntKind.wrap .u64 ((IntKind.wrap .u64 (h*(10:Int)))+(IntKind.wrap .u64 (IntKind.wrap .u8 (k-(48:Int)))))),vI (IntKind.wrap .i64 (i+(1:Int)))])))))
 (T.call Tryz.prog 187 [.int .u8 k] false [(false,[.int .u8])] fun l =>
 cond (decide ((97:Int)≤l))
 (T.call Tryz.prog 187 [.int .u8 k] false [(false,[.int .u8])] fun m =>
 cond (decide (m≤(122:Int)))
 (T.call Tryz.prog 187 [.int .u8 k] false [(false,[.int .u8])] fun n =>
 cond (decide ((IntKind.wrap .u8 ((IntKind.wrap .u8 (n-(97:Int)))+(10:Int)))≥(10:Int)))
 (T.ret (.tuple #[.int .u64 0,.iface 299 (vI 2)]))
 (cond (decide (h≥(1844674407370955162:Int)))
 (T.ret (.tuple #[.int .u64 4294967295,.iface 299 (vI 1)]))
 (cond (decide ((IntKind.wrap .u64 ((IntKind.wrap .u64 (h*(10:Int)))+(IntKind.wrap .u64 (IntKind.wrap .u8 ((IntKind.wrap .u8 (n-(97:Int)))+(10:Int))))))<(IntKind.wrap .u64 (h*(10:Int)))))
 (T.ret (.tuple #[.int .u64 4294967295,.iface 299 (vI 1)]))
 (cond (decide ((IntKind.wrap .u64 ((IntKind.wrap .u64 (h*(10:Int)))+(IntKind.wrap .u64 (IntKind.wrap .u8 ((IntKind.wrap .u8 (n-(97:Int)))+(10:Int))))))>(4294967295:Int)))
 (T.ret (.tuple #[.int .u64 4294967295,.iface 299 (vI 1)]))
 (T.again 0 [.int .u64 e,f,.bool g,.int .u64 (IntKind.wrap .u64 ((IntKind.wrap .u64 (h*(10:Int)))+(IntKind.wrap .u64 (IntKind.wrap .u8 ((IntKind.wrap .u8 (n-(97:Int)))+(10:Int)))))),vI (IntKind.wrap .i64 (i+(1:Int)))])))))
 (T.ret (.tuple #[.int .u64 0,.iface 299 (vI 2)])))
 (T.ret (.tuple #[.int .u64 0,.iface 299 (vI 2)]))))
 (T.call Tryz.prog 187 [.int .u8 k] false [(false,[.int .u8])] fun l =>
 cond (decide ((97:Int)≤l))
 (T.call Tryz.prog 187 [.int .u8 k] false [(false,[.int .u8])] fun m =>
 cond (decide (m≤(122:Int)))
 (T.call Tryz.prog 187 [.int .u8 k] false [(false,[.int .u8])] fun n =>
 cond (decide ((IntKind.wrap .u8 ((IntKind.wrap .u8 (n-(97:Int)))+(10:Int)))≥(10:Int)))
 (T.ret (.tuple #[.int .u64 0,.iface 299 (vI 2)]))
 (cond (decide (h≥(1844674407370955162:Int)))
 (T.ret (.tuple #[.int .u64 4294967295,.iface 299 (vI 1)]))
 (cond (decide ((IntKind.wrap .u64 ((IntKind.wrap .u64 (h*(10:Int)))+(IntKind.wrap .u64 (IntKind.wrap .u8 ((IntKind.wrap .u8 (n-(97:Int)))+(10:Int))))))<(IntKind.wrap .u64 (h*(10:Int)))))
 (T.ret (.tuple #[.int .u64 4294967295,.iface 299 (vI 1)]))
 (cond (decide ((IntKind.wrap .u64 ((IntKind.wrap .u64 (h*(10:Int)))+(IntKind.wrap .u64 (IntKind.wrap .u8 ((IntKind.wrap .u8 (n-(97:Int)))+(10:Int))))))>(4294967295:Int)))
 (T.ret (.tuple #[.int .u64 4294967295,.iface 299 (vI 1)]))
 (T.again 0 [.int .u64 e,f,.bool g,.int .u64 (IntKind.wrap .u64 ((IntKind.wrap .u64 (h*(10:Int)))+(IntKind.wrap .u64 (IntKind.wrap .u8 ((IntKind.wrap .u8 (n-(97:Int)))+(10:Int)))))),vI (IntKind.wrap .i64 (i+(1:Int)))])))))
 (T.ret (.tuple #[.int .u64 0,.iface 299 (vI 2)])))
 (T.ret (.tuple #[.int .u64 0,.iface 299 (vI 2)])))))
 (cond g
 (T.call Tryz.prog 188 [.string a] false [(false,[.bool])] fun j =>
 cond (!j)
 (T.ret (.tuple #[.int .u64 0,.iface 299 (vI 2)]))
 (T.ret (.tuple #[.int .u64 h,.nilIface])))
 (T.ret (.tuple #[.int .u64 h,.nilIface]))))
theorem fe (a:ByteArray):aX Tryz.prog [] Tryz.f177 [.string a,vI 10,vI 32]=dm a:=by kernel_rfl
def dk (a:ByteArray):T :=
 cond ((ByteArray.toList a)==[])
 (T.ret (.tuple #[.int .u64 0,.iface 299 (vI 2)]))
 (T.need ((0:Int)≤(32:Int)) <|
 T.aY Tryz.prog (convert 9 42 (.string a)) false [(false,[.slice 0])] fun b c d =>
 T.loop [(false,[.int .u64]),(false,[.invalid]),(false,[.bool]),(false,[.int .u64]),(false,[.int .i64])] [.int .u64 0,.nilIface,.bool false,.int .u64 0,vI 0] fun (e:Int) (f:Value) (g:Bool) (h:Int) (i:Int) =>
 cond (decide (i<(c:Int)))
 (T.need (((0:Int)≤i)∧(i<(c:Int))) <|
 T.au b fun j =>
 T.ae (j.add ((Int.toNat i)*1)) [.int .u8] fun k =>
 cond (k==(95:Int))
 (cond (decide ((48:Int)≤k))
 (cond (decide (k≤(57:Int)))
 (cond (decide ((IntKind.wrap .u8 (k-(48:Int)))≥(16:Int)))
 (T.ret (.tuple #[.int .u64 0,.iface 299 (vI 2)]))
 (cond (decide (h≥(1152921504606846976:Int)))
 (T.ret (.tuple #[.int .u64 4294967295,.iface 299 (vI 1)]))
 (cond (decide ((IntKind.wrap .u64 ((IntKind.wrap .u64 (h*(16:Int)))+(IntKind.wrap .u64 (IntKind.wrap .u8 (k-(48:Int))))))<(IntKind.wrap .u64 (h*(16:Int)))))
 (T.ret (.tuple #[.int .u64 4294967295,.iface 299 (vI 1)]))
 (cond (decide ((IntKind.wrap .u64 ((IntKind.wrap .u64 (h*(16:Int)))+(IntKind.wrap .u64 (IntKind.wrap .u8 (k-(48:Int))))))>(4294967295:Int)))
 (T.ret (.tuple #[.int .u64 4294967295,.iface 299 (vI 1)]))
 (T.again 0 [.int .u64 e,f,.bool g,.int .u64 (IntKind.wrap .u64 ((IntKind.wrap .u64 (h*(16:Int)))+(IntKind.wrap .u64 (IntKind.wrap .u8 (k-(48:Int)))))),vI (IntKind.wrap .i64 (i+(1:Int)))])))))
 (T.call Tryz.prog 187 [.int .u8 k] false [(false,[.int .u8])] fun l =>
 cond (decide ((97:Int)≤l))
 (T.call Tryz.prog 187 [.int .u8 k] false [(false,[.int .u8])] fun m =>
 cond (decide (m≤(122:Int)))
 (T.call Tryz.prog 187 [.int .u8 k] false [(false,[.int .u8])] fun n =>
 cond (decide ((IntKind.wrap .u8 ((IntKind.wrap .u8 (n-(97:Int)))+(10:Int)))≥(16:Int)))
 (T.ret (.tuple #[.int .u64 0,.iface 299 (vI 2)]))
 (cond (decide (h≥(1152921504606846976:Int)))
 (T.ret (.tuple #[.int .u64 4294967295,.iface 299 (vI 1)]))
 (cond (decide ((IntKind.wrap .u64 ((IntKind.wrap .u64 (h*(16:Int)))+(IntKind.wrap .u64 (IntKind.wrap .u8 ((IntKind.wrap .u8 (n-(97:Int)))+(10:Int))))))<(IntKind.wrap .u64 (h*(16:Int)))))
 (T.ret (.tuple #[.int .u64 4294967295,.iface 299 (vI 1)]))
 (cond (decide ((IntKind.wrap .u64 ((IntKind.wrap .u64 (h*(16:Int)))+(IntKind.wrap .u64 (IntKind.wrap .u8 ((IntKind.wrap .u8 (n-(97:Int)))+(10:Int))))))>(4294967295:Int)))
 (T.ret (.tuple #[.int .u64 4294967295,.iface 299 (vI 1)]))
 (T.again 0 [.int .u64 e,f,.bool g,.int .u64 (IntKind.wrap .u64 ((IntKind.wrap .u64 (h*(16:Int)))+(IntKind.wrap .u64 (IntKind.wrap .u8 ((IntKind.wrap .u8 (n-(97:Int)))+(10:Int)))))),vI (IntKind.wrap .i64 (i+(1:Int)))])))))
 (T.ret (.tuple #[.int .u64 0,.iface 299 (vI 2)])))
 (T.ret (.tuple #[.int .u64 0,.iface 299 (vI 2)]))))
 (T.call Tryz.prog 187 [.int .u8 k] false [(false,[.int .u8])] fun l =>
 cond (decide ((97:Int)≤l))
 (T.call Tryz.prog 187 [.int .u8 k] false [(false,[.int .u8])] fun m =>
 cond (decide (m≤(122:Int)))
 (T.call Tryz.prog 187 [.int .u8 k] false [(false,[.int .u8])] fun n =>
 cond (decide ((IntKind.wrap .u8 ((IntKind.wrap .u8 (n-(97:Int)))+(10:Int)))≥(16:Int)))
 (T.ret (.tuple #[.int .u64 0,.iface 299 (vI 2)]))
 (cond (decide (h≥(1152921504606846976:Int)))
 (T.ret (.tuple #[.int .u64 4294967295,.iface 299 (vI 1)]))
 (cond (decide ((IntKind.wrap .u64 ((IntKind.wrap .u64 (h*(16:Int)))+(IntKind.wrap .u64 (IntKind.wrap .u8 ((IntKind.wrap .u8 (n-(97:Int)))+(10:Int))))))<(IntKind.wrap .u64 (h*(16:Int)))))
 (T.ret (.tuple #[.int .u64 4294967295,.iface 299 (vI 1)]))
 (cond (decide ((IntKind.wrap .u64 ((IntKind.wrap .u64 (h*(16:Int)))+(IntKind.wrap .u64 (IntKind.wrap .u8 ((IntKind.wrap .u8 (n-(97:Int)))+(10:Int))))))>(4294967295:Int)))
 (T.ret (.tuple #[.int .u64 4294967295,.iface 299 (vI 1)]))
 (T.again 0 [.int .u64 e,f,.bool g,.int .u64 (IntKind.wrap .u64 ((IntKind.wrap .u64 (h*(16:Int)))+(IntKind.wrap .u64 (IntKind.wrap .u8 ((IntKind.wrap .u8 (n-(97:Int)))+(10:Int)))))),vI (IntKind.wrap .i64 (i+(1:Int)))])))))
 (T.ret (.tuple #[.int .u64 0,.iface 299 (vI 2)])))
 (T.ret (.tuple #[.int .u64 0,.iface 299 (vI 2)]))))
 (cond (decide ((48:Int)≤k))
 (cond (decide (k≤(57:Int)))
 (cond (decide ((IntKind.wrap .u8 (k-(48:Int)))≥(16:Int)))
 (T.ret (.tuple #[.int .u64 0,.iface 299 (vI 2)]))
 (cond (decide (h≥(1152921504606846976:Int)))
 (T.ret (.tuple #[.int .u64 4294967295,.iface 299 (vI 1)]))
 (cond (decide ((IntKind.wrap .u64 ((IntKind.wrap .u64 (h*(16:Int)))+(IntKind.wrap .u64 (IntKind.wrap .u8 (k-(48:Int))))))<(IntKind.wrap .u64 (h*(16:Int)))))
 (T.ret (.tuple #[.int .u64 4294967295,.iface 299 (vI 1)]))
 (cond (decide ((IntKind.wrap .u64 ((IntKind.wrap .u64 (h*(16:Int)))+(IntKind.wrap .u64 (IntKind.wrap .u8 (k-(48:Int))))))>(4294967295:Int)))
 (T.ret (.tuple #[.int .u64 4294967295,.iface 299 (vI 1)]))
 (T.again 0 [.int .u64 e,f,.bool g,.int .u64 (IntKind.wrap .u64 ((IntKind.wrap .u64 (h*(16:Int)))+(IntKind.wrap .u64 (IntKind.wrap .u8 (k-(48:Int)))))),vI (IntKind.wrap .i64 (i+(1:Int)))])))))
 (T.call Tryz.prog 187 [.int .u8 k] false [(false,[.int .u8])] fun l =>
 cond (decide ((97:Int)≤l))
 (T.call Tryz.prog 187 [.int .u8 k] false [(false,[.int .u8])] fun m =>
 cond (decide (m≤(122:Int)))
 (T.call Tryz.prog 187 [.int .u8 k] false [(false,[.int .u8])] fun n =>
 cond (decide ((IntKind.wrap .u8 ((IntKind.wrap .u8 (n-(97:Int)))+(10:Int)))≥(16:Int)))
 (T.ret (.tuple #[.int .u64 0,.iface 299 (vI 2)]))
 (cond (decide (h≥(1152921504606846976:Int)))
 (T.ret (.tuple #[.int .u64 4294967295,.iface 299 (vI 1)]))
 (cond (decide ((IntKind.wrap .u64 ((IntKind.wrap .u64 (h*(16:Int)))+(IntKind.wrap .u64 (IntKind.wrap .u8 ((IntKind.wrap .u8 (n-(97:Int)))+(10:Int))))))<(IntKind.wrap .u64 (h*(16:Int)))))
 (T.ret (.tuple #[.int .u64 4294967295,.iface 299 (vI 1)]))
 (cond (decide ((IntKind.wrap .u64 ((IntKind.wrap .u64 (h*(16:Int)))+(IntKind.wrap .u64 (IntKind.wrap .u8 ((IntKind.wrap .u8 (n-(97:Int)))+(10:Int))))))>(4294967295:Int)))
 (T.ret (.tuple #[.int .u64 4294967295,.iface 299 (vI 1)]))
 (T.again 0 [.int .u64 e,f,.bool g,.int .u64 (IntKind.wrap .u64 ((IntKind.wrap .u64 (h*(16:Int)))+(IntKind.wrap .u64 (IntKind.wrap .u8 ((IntKind.wrap .u8 (n-(97:Int)))+(10:Int)))))),vI (IntKind.wrap .i64 (i+(1:Int)))])))))
 (T.ret (.tuple #[.int .u64 0,.iface 299 (vI 2)])))
 (T.ret (.tuple #[.int .u64 0,.iface 299 (vI 2)]))))
 (T.call Tryz.prog 187 [.int .u8 k] false [(false,[.int .u8])] fun l =>
 cond (decide ((97:Int)≤l))
 (T.call Tryz.prog 187 [.int .u8 k] false [(false,[.int .u8])] fun m =>
 cond (decide (m≤(122:Int)))
 (T.call Tryz.prog 187 [.int .u8 k] false [(false,[.int .u8])] fun n =>
 cond (decide ((IntKind.wrap .u8 ((IntKind.wrap .u8 (n-(97:Int)))+(10:Int)))≥(16:Int)))
 (T.ret (.tuple #[.int .u64 0,.iface 299 (vI 2)]))
 (cond (decide (h≥(1152921504606846976:Int)))
 (T.ret (.tuple #[.int .u64 4294967295,.iface 299 (vI 1)]))
 (cond (decide ((IntKind.wrap .u64 ((IntKind.wrap .u64 (h*(16:Int)))+(IntKind.wrap .u64 (IntKind.wrap .u8 ((IntKind.wrap .u8 (n-(97:Int)))+(10:Int))))))<(IntKind.wrap .u64 (h*(16:Int)))))
 (T.ret (.tuple #[.int .u64 4294967295,.iface 299 (vI 1)]))
 (cond (decide ((IntKind.wrap .u64 ((IntKind.wrap .u64 (h*(16:Int)))+(IntKind.wrap .u64 (IntKind.wrap .u8 ((IntKind.wrap .u8 (n-(97:Int)))+(10:Int))))))>(4294967295:Int)))
 (T.ret (.tuple #[.int .u64 4294967295,.iface 299 (vI 1)]))
 (T.again 0 [.int .u64 e,f,.bool g,.int .u64 (IntKind.wrap .u64 ((IntKind.wrap .u64 (h*(16:Int)))+(IntKind.wrap .u64 (IntKind.wrap .u8 ((IntKind.wrap .u8 (n-(97:Int)))+(10:Int)))))),vI (IntKind.wrap .i64 (i+(1:Int)))])))))
 (T.ret (.tuple #[.int .u64 0,.iface 299 (vI 2)])))
 (T.ret (.tuple #[.int .u64 0,.iface 299 (vI 2)])))))
 (cond g
 (T.call Tryz.prog 188 [.string a] false [(false,[.bool])] fun j =>
 cond (!j)
 (T.ret (.tuple #[.int .u64 0,.iface 299 (vI 2)]))
 (T.ret (.tuple #[.int .u64 h,.nilIface])))
 (T.ret (.tuple #[.int .u64 h,.nilIface]))))
theorem fa (a:ByteArray):aX Tryz.prog [] Tryz.f177 [.string a,vI 16,vI 32]=dk a:=by kernel_rfl
def fB (a:ByteArray):T :=
 T.call Tryz.prog 177 [.string a, vI 10, vI 32] true [(false, [.int .u64]), (false, [.interface #[("Error", 85)]])] fun (b : Int) (c : Value) =>
 T.aY Tryz.prog (Sx.bM (BinOp.neq) 29 (Operand.tmp 17) (Operand.const Value.nilIface) c .nilIface) false [(false,[.bool])] fun d =>
 cond d
 (T.call Tryz.prog 178 [.string ⟨#[80, 97, 114, 115, 101, 85, 105, 110, 116]⟩, .string a, vI 10, vI 32, c] false [(false, [.interface #[("Error", 85)]])] fun (e : Value) =>
 T.ret (.tuple #[.int .u64 b,e]))
 (T.ret (.tuple #[.int .u64 b,.nilIface]))
theorem js (a:ByteArray):aX Tryz.prog [] Tryz.f150 [.string a,vI 10,vI 32]=fB a:=by kernel_rfl
def fA (a:ByteArray):T :=
 T.call Tryz.prog 177 [.string a, vI 16, vI 32] true [(false, [.int .u64]), (false, [.interface #[("Error", 85)]])] fun (b : Int) (c : Value) =>
 T.aY Tryz.prog (Sx.bM (BinOp.neq) 29 (Operand.tmp 17) (Operand.const Value.nilIface) c .nilIface) false [(false,[.bool])] fun d =>
 cond d
 (T.call Tryz.prog 178 [.string ⟨#[80, 97, 114, 115, 101, 85, 105, 110, 116]⟩, .string a, vI 16, vI 32, c] false [(false, [.interface #[("Error", 85)]])] fun (e : Value) =>
 T.ret (.tuple #[.int .u64 b,e]))
 (T.ret (.tuple #[.int .u64 b,.nilIface]))
theorem iX (a:ByteArray):aX Tryz.prog [] Tryz.f150 [.string a,vI 16,vI 32]=fA a:=by kernel_rfl
end Go.Sx
