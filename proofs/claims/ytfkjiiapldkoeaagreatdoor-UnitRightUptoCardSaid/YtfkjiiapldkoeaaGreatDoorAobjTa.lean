/- Trees of functions, each checked by the kernel against the code. No condition. -/
import Derived.Test.YtfkjiiapldkoeaaGreatDoorSxF
import Derived.Test.YtfkjiiapldkoeaaGreatDoorProg
import Derived.KernelRfl
set_option linter.unusedVariables false
set_option linter.unusedSimpArgs false
set_option linter.deprecated false
set_option maxRecDepth 100000
namespace Go.Sx
open Go.Proofs
def jc (a:Option Addr) (b c:Nat) (d:Option Addr) (e f:Nat):T :=
 cond ((b:Int) != (e:Int))
 (T.ret (.bool false))
 (T.loop [(false,[.bool]),(false,[.int .i64])] [.bool false,vI 0] fun g h =>
 cond (decide (h<(b:Int)))
 (T.aJ (((0:Int)≤h)∧(h<(b:Int))) <|
 T.av a fun i =>
 T.ae (i.add ((Int.toNat h)*1)) [.string] fun j =>
 T.aJ (((0:Int)≤h)∧(h<(e:Int))) <|
 T.av d fun k =>
 T.ae (k.add ((Int.toNat h)*1)) [.string] fun l =>
 cond (!((ByteArray.toList j)==(ByteArray.toList l)))
 (T.ret (.bool false))
 (T.again 0 [.bool g,vI (IntKind.wrap .i64 (h+(1:Int)))]))
 (T.ret (.bool true)))
theorem gK (a:Option Addr) (b c:Nat) (d:Option Addr) (e f:Nat):aV Tryz.prog [] Tryz.f15 [.slice a b c,.slice d e f]=jc a b c d e f:=by kernel_rfl
def iq (a:Option Addr) (b c:Nat):T :=
 T.loop [(false,[.bool]),(false,[.int .i64]),(false,[.int .i64])] [.bool false,vI 0,vI 0] fun d e f =>
 cond (decide (f<(b:Int)))
 (cond (decide (f<(65:Int)))
 (T.aJ (((0:Int)≤f)∧(f<(b:Int))) <|
 T.av a fun g =>
 T.ae (g.add ((Int.toNat f)*4)) [.slice 96] fun h i j =>
 cond (decide ((i:Int)>(600:Int)))
 (T.ret (.bool true))
 (T.aJ (((0:Int)≤f)∧(f<(b:Int))) <|
 T.av a fun k =>
 T.ae ((k.add ((Int.toNat f)*4)).add 1) [.slice 96] fun l m n =>
 cond (decide ((m:Int)>(300:Int)))
 (T.ret (.bool true))
 (T.aJ (((0:Int)≤f)∧(f<(b:Int))) <|
 T.av a fun o =>
 T.ae ((o.add ((Int.toNat f)*4)).add 2) [.slice 99] fun p q r =>
 cond (decide ((q:Int)>(100:Int)))
 (T.ret (.bool true))
 (T.aJ (((0:Int)≤f)∧(f<(b:Int))) <|
 T.av a fun s =>
 T.ae (s.add ((Int.toNat f)*4)) [.slice 96] fun t u v =>
 T.aJ (((0:Int)≤f)∧(f<(b:Int))) <|
 T.av a fun w =>
 T.ae ((w.add ((Int.toNat f)*4)).add 1) [.slice 96] fun x y z =>
 T.aJ (((0:Int)≤f)∧(f<(b:Int))) <|
 T.av a fun A =>
 T.ae ((A.add ((Int.toNat f)*4)).add 2) [.slice 99] fun B C D =>
 T.again 0 [.bool d,vI (IntKind.wrap .i64 ((IntKind.wrap .i64 ((IntKind.wrap .i64 (e+(u:Int)))+(y:Int)))+(C:Int))),vI (IntKind.wrap .i64 (f+(1:Int)))]))))
 (T.ret (.bool (decide (e>(900:Int))))))
 (T.ret (.bool (decide (e>(900:Int)))))
theorem lC (a:Option Addr) (b c:Nat):aV Tryz.prog [] Tryz.f19 [.slice a b c]=iq a b c:=by kernel_rfl
def iU (a:Int):T :=
 cond (a==(0:Int))
 (T.ret (.string ⟨#[110,111,32,101,114,114,111,114]⟩))
 (cond (a==(1:Int))
 (T.ret (.string ⟨#[97,110,32,97,114,103,117,109,101,110,116,32,116,104,97,116,32,109,97,121,32,110,111,116,32,98,101]⟩))
 (cond (a==(20:Int))
 (T.ret (.string ⟨#[97,32,108,105,110,101,32,116,104,97,116,32,99,97,110,39,116,32,98,101,32,114,101,97,100]⟩))
 (cond (a==(23:Int))
 (T.ret (.string ⟨#[97,32,110,97,109,101,32,116,104,97,116,32,110,111,98,111,100,121,32,103,105,118,101,115]⟩))
 (cond (decide (a<(0:Int)))
 (T.loop [(false,[.int .i64]),(false,[.slice 0])] [vI 0,.slice none 0 0] fun b c d e =>
 cond (decide (b>(0:Int)))
 (T.aJ ((10:Int)≠(0:Int)) <|
 T.bj Tryz.prog (Instr.buildSlice 42 1 #[(0,.int .u8 (IntKind.wrap .u8 (IntKind.wrap .i64 ((48:Int)+(Int.tmod b (10:Int))))))]) false [(false,[.slice 0])] fun f g h =>
 T.bj Tryz.prog (Builtin.append_ #[42,42] 42 #[.slice f g h,.slice c d e]) false [(false,[.slice 0])] fun i j k =>
 T.aJ ((10:Int)≠(0:Int)) <|
 T.again 0 [vI (IntKind.wrap .i64 (Int.tdiv b (10:Int))),.slice i j k])
 (cond ((d:Int)==(0:Int))
 (T.aJ ((10:Int)≠(0:Int)) <|
 T.bj Tryz.prog (Instr.buildSlice 42 1 #[(0,.int .u8 (IntKind.wrap .u8 (IntKind.wrap .i64 ((48:Int)+(Int.tmod b (10:Int))))))]) false [(false,[.slice 0])] fun f g h =>
 T.bj Tryz.prog (Builtin.append_ #[42,42] 42 #[.slice f g h,.slice c d e]) false [(false,[.slice 0])] fun i j k =>
 T.aJ ((10:Int)≠(0:Int)) <|
 T.again 0 [vI (IntKind.wrap .i64 (Int.tdiv b (10:Int))),.slice i j k])
 (T.bj Tryz.prog (convert 42 9 (.slice c d e)) false [(false,[.string])] fun f =>
 T.aJ ((((8+f.size):Nat):Int)≤(9223372036854775807:Int)) <|
 T.ret (.string (⟨#[114,101,102,117,115,97,108,32]⟩++f)))))
 (T.loop [(false,[.int .i64]),(false,[.slice 0])] [vI a,.slice none 0 0] fun b c d e =>
 cond (decide (b>(0:Int)))
 (T.aJ ((10:Int)≠(0:Int)) <|
 T.bj Tryz.prog (Instr.buildSlice 42 1 #[(0,.int .u8 (IntKind.wrap .u8 (IntKind.wrap .i64 ((48:Int)+(Int.tmod b (10:Int))))))]) false [(false,[.slice 0])] fun f g h =>
 T.bj Tryz.prog (Builtin.append_ #[42,42] 42 #[.slice f g h,.slice c d e]) false [(false,[.slice 0])] fun i j k =>
 T.aJ ((10:Int)≠(0:Int)) <|
 T.again 0 [vI (IntKind.wrap .i64 (Int.tdiv b (10:Int))),.slice i j k])
 (cond ((d:Int)==(0:Int))
 (T.aJ ((10:Int)≠(0:Int)) <|
 T.bj Tryz.prog (Instr.buildSlice 42 1 #[(0,.int .u8 (IntKind.wrap .u8 (IntKind.wrap .i64 ((48:Int)+(Int.tmod b (10:Int))))))]) false [(false,[.slice 0])] fun f g h =>
 T.bj Tryz.prog (Builtin.append_ #[42,42] 42 #[.slice f g h,.slice c d e]) false [(false,[.slice 0])] fun i j k =>
 T.aJ ((10:Int)≠(0:Int)) <|
 T.again 0 [vI (IntKind.wrap .i64 (Int.tdiv b (10:Int))),.slice i j k])
 (T.bj Tryz.prog (convert 42 9 (.slice c d e)) false [(false,[.string])] fun f =>
 T.aJ ((((8+f.size):Nat):Int)≤(9223372036854775807:Int)) <|
 T.ret (.string (⟨#[114,101,102,117,115,97,108,32]⟩++f)))))))))
theorem mn (a:Int):aV Tryz.prog [] Tryz.f72 [vI a]=iU a:=by kernel_rfl
def gH (a:Option Addr):T :=
 T.av a fun b =>
 T.ae b [.int .i64] fun c =>
 T.av a fun d =>
 T.ae (d.add 1) [.int .i64] fun e =>
 T.call Tryz.prog 71 [vI c] false [(false,[.string])] fun f =>
 T.aM [((d.add 1),[vI e])] <|
 T.aJ ((((5+f.size):Nat):Int)≤(9223372036854775807:Int)) <|
 T.aJ (((((ByteArray.size (⟨#[108,105,110,101,32]⟩++f))+2):Nat):Int)≤(9223372036854775807:Int)) <|
 T.call Tryz.prog 72 [vI e] false [(false,[.string])] fun g =>
 T.aM [(b,[vI c])] <|
 T.aJ (((((ByteArray.size ((⟨#[108,105,110,101,32]⟩++f)++⟨#[58,32]⟩))+g.size):Nat):Int)≤(9223372036854775807:Int)) <|
 T.ret (.string (((⟨#[108,105,110,101,32]⟩++f)++⟨#[58,32]⟩)++g))
theorem kp (a:Option Addr):aV Tryz.prog [] Tryz.f37 [.pointer a]=gH a:=by kernel_rfl
def fG (a:Option Addr):T :=
 T.av a fun b =>
 T.ae (b.add 1) [.int .i64] fun c =>
 T.ret (.iface 44 (vI c))
theorem j1 (a:Option Addr):aV Tryz.prog [] Tryz.f39 [.pointer a]=fG a:=by kernel_rfl
def fR (a:Value) (b:Value):T :=
 T.bj Tryz.prog (Sx.bX (BinOp.eql) 29 (Operand.tmp 5) (Operand.const Value.nilIface) a .nilIface) false [(false,[.bool])] fun c =>
 cond c
 (T.bj Tryz.prog (Sx.bX (BinOp.eql) 29 (Operand.tmp 11) (Operand.const Value.nilIface) a .nilIface) false [(false,[.bool])] fun d =>
 cond d
 (T.bj Tryz.prog (Sx.bX (BinOp.eql) 29 (Operand.tmp 14) (Operand.const Value.nilIface) b .nilIface) false [(false,[.bool])] fun e =>
 T.ret (.bool e))
 (T.ret (.bool false)))
 (T.bj Tryz.prog (Sx.bX (BinOp.eql) 29 (Operand.tmp 8) (Operand.const Value.nilIface) b .nilIface) false [(false,[.bool])] fun d =>
 cond d
 (T.bj Tryz.prog (Sx.bX (BinOp.eql) 29 (Operand.tmp 11) (Operand.const Value.nilIface) a .nilIface) false [(false,[.bool])] fun e =>
 cond e
 (T.bj Tryz.prog (Sx.bX (BinOp.eql) 29 (Operand.tmp 14) (Operand.const Value.nilIface) b .nilIface) false [(false,[.bool])] fun f =>
 T.ret (.bool f))
 (T.ret (.bool false)))
 (T.bj Tryz.prog (Sx.bX (BinOp.eql) 29 (Operand.tmp 17) (Operand.tmp 18) a b) false [(false,[.bool])] fun e =>
 T.ret (.bool e)))
theorem j2 (a:Value) (b:Value):aV Tryz.prog [] Tryz.f38 [a,b]=fR a b:=by kernel_rfl
end Go.Sx
