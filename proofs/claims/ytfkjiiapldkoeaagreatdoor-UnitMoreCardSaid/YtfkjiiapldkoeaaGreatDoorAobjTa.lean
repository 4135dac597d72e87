/- Trees of functions, each checked by the kernel against the code. No condition. -/
import Derived.Test.YtfkjiiapldkoeaaGreatDoorSxF
import Derived.Test.YtfkjiiapldkoeaaGreatDoorProg
import Derived.KernelRfl
set_option linter.unusedVariables false
set_option linter.unusedSimpArgs false
set_option linter.deprecated false
set_option maxRecDepth 100000
namespace Go.Sx
open Go.Proofs
def fq (a:Int) (b:ByteArray) (c:Int) (d:Int) (e:Int) (f:Int) (g:Int) (h:Option Addr) (i j:Nat) (k:Int) (l:Int) (m:Int) (n:ByteArray) (o:Int) (p:Int) (q:Int) (r:Int) (s:Int) (t:Option Addr) (u v:Nat) (w:Int) (x:Int):T :=
 T.new [vI a,.string b,vI c,vI d,vI e,.int .i32 f,vI g,.slice h i j,.int .u32 k,vI l] 96 fun y =>
 T.new [vI m,.string n,vI o,vI p,vI q,.int .i32 r,vI s,.slice t u v,.int .u32 w,vI x] 96 fun z =>
 T.ae y [.int .i64] fun A =>
 T.ae z [.int .i64] fun B =>
 cond (A==B)
 (T.ae (y.add 1) [.string] fun C =>
 T.ae (z.add 1) [.string] fun D =>
 cond ((ByteArray.toList C)==(ByteArray.toList D))
 (T.ae (y.add 2) [.int .i64,.int .i64,.int .i64,.int .i32,.int .i64] fun E F G H I =>
 T.ae (z.add 2) [.int .i64,.int .i64,.int .i64,.int .i32,.int .i64] fun J K L M N =>
 T.aV Tryz.prog (Sx.bJ (BinOp.eql) 90 (Operand.tmp 19) (Operand.tmp 21) (.agg #[vI E,vI F,vI G,.int .i32 H,vI I]) (.agg #[vI J,vI K,vI L,.int .i32 M,vI N])) false [(false,[.bool])] fun O =>
 cond O
 (T.ae (y.add 7) [.slice 109,.int .u32] fun P Q R S =>
 T.ae (z.add 7) [.slice 109,.int .u32] fun U V W X =>
 T.call Tryz.prog 75 [.agg #[.slice P Q R,.int .u32 S],.agg #[.slice U V W,.int .u32 X]] false [(false,[.bool])] fun Y =>
 cond Y
 (T.ae (y.add 9) [.int .i64] fun Z =>
 T.ae (z.add 9) [.int .i64] fun a0 =>
 T.ret (.bool (Z==a0)))
 (T.ret (.bool false)))
 (T.ret (.bool false)))
 (T.ret (.bool false)))
 (T.ret (.bool false))
theorem iE (a:Int) (b:ByteArray) (c:Int) (d:Int) (e:Int) (f:Int) (g:Int) (h:Option Addr) (i j:Nat) (k:Int) (l:Int) (m:Int) (n:ByteArray) (o:Int) (p:Int) (q:Int) (r:Int) (s:Int) (t:Option Addr) (u v:Nat) (w:Int) (x:Int):aY Tryz.prog [] Tryz.f61 [.agg #[vI a,.string b,vI c,vI d,vI e,.int .i32 f,vI g,.slice h i j,.int .u32 k,vI l],.agg #[vI m,.string n,vI o,vI p,vI q,.int .i32 r,vI s,.slice t u v,.int .u32 w,vI x]]=fq a b c d e f g h i j k l m n o p q r s t u v w x:=by kernel_rfl
def jG (a:Option Addr) (b c:Nat) (d:Option Addr) (e f:Nat):T :=
 cond ((b:Int) != (e:Int))
 (T.ret (.bool false))
 (T.loop [(false,[.bool]),(false,[.int .i64])] [.bool false,vI 0] fun g h =>
 cond (decide (h<(b:Int)))
 (T.need (((0:Int)≤h)∧(h<(b:Int))) <|
 T.au a fun i =>
 T.ae (i.add ((Int.toNat h)*10)) yI fun j k l m n o p q r s t u =>
 T.need (((0:Int)≤h)∧(h<(e:Int))) <|
 T.au d fun v =>
 T.ae (v.add ((Int.toNat h)*10)) yI fun w x y z A B C D E F G H =>
 T.call Tryz.prog 61 [.agg #[vI j,.string k,vI l,vI m,vI n,.int .i32 o,vI p,.slice q r s,.int .u32 t,vI u],.agg #[vI w,.string x,vI y,vI z,vI A,.int .i32 B,vI C,.slice D E F,.int .u32 G,vI H]] false [(false,[.bool])] fun I =>
 cond (!I)
 (T.ret (.bool false))
 (T.again 0 [.bool g,vI (IntKind.wrap .i64 (h+(1:Int)))]))
 (T.ret (.bool true)))
theorem ig (a:Option Addr) (b c:Nat) (d:Option Addr) (e f:Nat):aY Tryz.prog [] Tryz.f31 [.slice a b c,.slice d e f]=jG a b c d e f:=by kernel_rfl
def gW (a:Int):T :=
 cond (a==(0:Int))
 (T.ret (.string ⟨#[110,111,32,101,114,114,111,114]⟩))
 (cond (a==(1:Int))
 (T.ret (.string ⟨#[97,110,32,97,114,103,117,109,101,110,116,32,116,104,97,116,32,109,97,121,32,110,111,116,32,98,101]⟩))
 (cond (a==(20:Int))
 (T.ret (.string ⟨#[97,32,108,105,110,101,32,116,104,97,116,32,99,97,110,39,116,32,98,101,32,114,101,97,100]⟩))
 (cond (a==(23:Int))
 (T.ret (.string ⟨#[97,32,110,97,109,101,32,116,104,97,116,32,110,111,98,111,100,121,32,103,105,118,101,115]⟩))
 (cond (decide (a<(0:Int)))
 (T.loop [(false,[.int .i64]),(false,[.slice 0])] [vI 0,.slice none 0 0] fun b c d e =>
 cond (decide (b>(0:Int)))
 (T.need ((10:Int)≠(0:Int)) <|
 T.aV Tryz.prog (Instr.buildSlice 42 1 #[(0,.int .u8 (IntKind.wrap .u8 (IntKind.wrap .i64 ((48:Int)+(Int.tmod b (10:Int))))))]) false [(false,[.slice 0])] fun f g h =>
 T.aV Tryz.prog (Builtin.append_ #[42,42] 42 #[.slice f g h,.slice c d e]) false [(false,[.slice 0])] fun i j k =>
 T.need ((10:Int)≠(0:Int)) <|
 T.again 0 [vI (IntKind.wrap .i64 (Int.tdiv b (10:Int))),.slice i j k])
 (cond ((d:Int)==(0:Int))
 (T.need ((10:Int)≠(0:Int)) <|
 T.aV Tryz.prog (Instr.buildSlice 42 1 #[(0,.int .u8 (IntKind.wrap .u8 (IntKind.wrap .i64 ((48:Int)+(Int.tmod b (10:Int))))))]) false [(false,[.slice 0])] fun f g h =>
 T.aV Tryz.prog (Builtin.append_ #[42,42] 42 #[.slice f g h,.slice c d e]) false [(false,[.slice 0])] fun i j k =>
 T.need ((10:Int)≠(0:Int)) <|
 T.again 0 [vI (IntKind.wrap .i64 (Int.tdiv b (10:Int))),.slice i j k])
 (T.aV Tryz.prog (convert 42 9 (.slice c d e)) false [(false,[.string])] fun f =>
 T.need ((((8+f.size):Nat):Int)≤(9223372036854775807:Int)) <|
 T.ret (.string (⟨#[114,101,102,117,115,97,108,32]⟩++f)))))
 (T.loop [(false,[.int .i64]),(false,[.slice 0])] [vI a,.slice none 0 0] fun b c d e =>
 cond (decide (b>(0:Int)))
 (T.need ((10:Int)≠(0:Int)) <|
 T.aV Tryz.prog (Instr.buildSlice 42 1 #[(0,.int .u8 (IntKind.wrap .u8 (IntKind.wrap .i64 ((48:Int)+(Int.tmod b (10:Int))))))]) false [(false,[.slice 0])] fun f g h =>
 T.aV Tryz.prog (Builtin.append_ #[42,42] 42 #[.slice f g h,.slice c d e]) false [(false,[.slice 0])] fun i j k =>
 T.need ((10:Int)≠(0:Int)) <|
 T.again 0 [vI (IntKind.wrap .i64 (Int.tdiv b (10:Int))),.slice i j k])
 (cond ((d:Int)==(0:Int))
 (T.need ((10:Int)≠(0:Int)) <|
 T.aV Tryz.prog (Instr.buildSlice 42 1 #[(0,.int .u8 (IntKind.wrap .u8 (IntKind.wrap .i64 ((48:Int)+(Int.tmod b (10:Int))))))]) false [(false,[.slice 0])] fun f g h =>
 T.aV Tryz.prog (Builtin.append_ #[42,42] 42 #[.slice f g h,.slice c d e]) false [(false,[.slice 0])] fun i j k =>
 T.need ((10:Int)≠(0:Int)) <|
 T.again 0 [vI (IntKind.wrap .i64 (Int.tdiv b (10:Int))),.slice i j k])
 (T.aV Tryz.prog (convert 42 9 (.slice c d e)) false [(false,[.string])] fun f =>
 T.need ((((8+f.size):Nat):Int)≤(9223372036854775807:Int)) <|
 T.ret (.string (⟨#[114,101,102,117,115,97,108,32]⟩++f)))))))))
theorem kF (a:Int):aY Tryz.prog [] Tryz.f72 [vI a]=gW a:=by kernel_rfl
def fZ (a:Option Addr):T :=
 T.au a fun b =>
 T.ae b [.int .i64] fun c =>
 T.au a fun d =>
 T.ae (d.add 1) [.int .i64] fun e =>
 T.call Tryz.prog 71 [vI c] false [(false,[.string])] fun f =>
 T.aO [((d.add 1),[vI e])] <|
 T.need ((((5+f.size):Nat):Int)≤(9223372036854775807:Int)) <|
 T.need (((((ByteArray.size (⟨#[108,105,110,101,32]⟩++f))+2):Nat):Int)≤(9223372036854775807:Int)) <|
 T.call Tryz.prog 72 [vI e] false [(false,[.string])] fun g =>
 T.aO [(b,[vI c])] <|
 T.need (((((ByteArray.size ((⟨#[108,105,110,101,32]⟩++f)++⟨#[58,32]⟩))+g.size):Nat):Int)≤(9223372036854775807:Int)) <|
 T.ret (.string (((⟨#[108,105,110,101,32]⟩++f)++⟨#[58,32]⟩)++g))
theorem jL (a:Option Addr):aY Tryz.prog [] Tryz.f37 [.pointer a]=fZ a:=by kernel_rfl
def fK (a:Option Addr):T :=
 T.au a fun b =>
 T.ae (b.add 1) [.int .i64] fun c =>
 T.ret (.iface 44 (vI c))
theorem jr (a:Option Addr):aY Tryz.prog [] Tryz.f39 [.pointer a]=fK a:=by kernel_rfl
def fJ (a:Value) (b:Value):T :=
 T.aV Tryz.prog (Sx.bJ (BinOp.eql) 29 (Operand.tmp 5) (Operand.const Value.nilIface) a .nilIface) false [(false,[.bool])] fun c =>
 cond c
 (T.aV Tryz.prog (Sx.bJ (BinOp.eql) 29 (Operand.tmp 11) (Operand.const Value.nilIface) a .nilIface) false [(false,[.bool])] fun d =>
 cond d
 (T.aV Tryz.prog (Sx.bJ (BinOp.eql) 29 (Operand.tmp 14) (Operand.const Value.nilIface) b .nilIface) false [(false,[.bool])] fun e =>
 T.ret (.bool e))
 (T.ret (.bool false)))
 (T.aV Tryz.prog (Sx.bJ (BinOp.eql) 29 (Operand.tmp 8) (Operand.const Value.nilIface) b .nilIface) false [(false,[.bool])] fun d =>
 cond d
 (T.aV Tryz.prog (Sx.bJ (BinOp.eql) 29 (Operand.tmp 11) (Operand.const Value.nilIface) a .nilIface) false [(false,[.bool])] fun e =>
 cond e
 (T.aV Tryz.prog (Sx.bJ (BinOp.eql) 29 (Operand.tmp 14) (Operand.const Value.nilIface) b .nilIface) false [(false,[.bool])] fun f =>
 T.ret (.bool f))
 (T.ret (.bool false)))
 (T.aV Tryz.prog (Sx.bJ (BinOp.eql) 29 (Operand.tmp 17) (Operand.tmp 18) a b) false [(false,[.bool])] fun e =>
 T.ret (.bool e)))
theorem jn (a:Value) (b:Value):aY Tryz.prog [] Tryz.f38 [a,b]=fJ a b:=by kernel_rfl
end Go.Sx
