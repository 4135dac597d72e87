/- Trees of functions, each checked by the kernel against the code. No condition. -/
import Derived.Test.YtfkjiiapldkoeaaGreatDoorSxF
import Derived.Test.YtfkjiiapldkoeaaGreatDoorProg
import Derived.KernelRfl
set_option linter.unusedVariables false
set_option linter.unusedSimpArgs false
set_option linter.deprecated false
set_option maxRecDepth 100000
namespace Go.Sx
open Go.Proofs
def fD (a:Int) (b:ByteArray) (c:Int) (d:Int) (e:Int) (f:Int) (g:Int) (h:Option Addr) (i j:Nat) (k:Int) (l:Int) (m:Int) (n:ByteArray) (o:Int) (p:Int) (q:Int) (r:Int) (s:Int) (t:Option Addr) (u v:Nat) (w:Int) (x:Int):T :=
 T.new [vI a,.string b,vI c,vI d,vI e,.int .i32 f,vI g,.slice h i j,.int .u32 k,vI l] 96 fun y =>
 T.new [vI m,.string n,vI o,vI p,vI q,.int .i32 r,vI s,.slice t u v,.int .u32 w,vI x] 96 fun z =>
 T.ae y [.int .i64] fun A =>
 T.ae z [.int .i64] fun B =>
 cond (A==B)
 (T.ae (y.add 1) [.string] fun C =>
 T.ae (z.add 1) [.string] fun D =>
 cond ((ByteArray.toList C)==(ByteArray.toList D))
 (T.ae (y.add 2) [.int .i64,.int .i64,.int .i64,.int .i32,.int .i64] fun E F G H I =>
 T.ae (z.add 2) [.int .i64,.int .i64,.int .i64,.int .i32,.int .i64] fun J K L M N =>
 T.aY Tryz.prog (Sx.bM (BinOp.eql) 90 (Operand.tmp 19) (Operand.tmp 21) (.agg #[vI E,vI F,vI G,.int .i32 H,vI I]) (.agg #[vI J,vI K,vI L,.int .i32 M,vI N])) false [(false,[.bool])] fun O =>
 cond O
 (T.ae (y.add 7) [.slice 109,.int .u32] fun P Q R S =>
 T.ae (z.add 7) [.slice 109,.int .u32] fun U V W X =>
 T.call Tryz.prog 75 [.agg #[.slice P Q R,.int .u32 S],.agg #[.slice U V W,.int .u32 X]] false [(false,[.bool])] fun Y =>
 cond Y
 (T.ae (y.add 9) [.int .i64] fun Z =>
 T.ae (z.add 9) [.int .i64] fun a0 =>
 T.ret (.bool (Z==a0)))
 (T.ret (.bool false)))
 (T.ret (.bool false)))
 (T.ret (.bool false)))
 (T.ret (.bool false))
theorem jw (a:Int) (b:ByteArray) (c:Int) (d:Int) (e:Int) (f:Int) (g:Int) (h:Option Addr) (i j:Nat) (k:Int) (l:Int) (m:Int) (n:ByteArray) (o:Int) (p:Int) (q:Int) (r:Int) (s:Int) (t:Option Addr) (u v:Nat) (w:Int) (x:Int):aX Tryz.prog [] Tryz.f61 [.agg #[vI a,.string b,vI c,vI d,vI e,.int .i32 f,vI g,.slice h i j,.int .u32 k,vI l],.agg #[vI m,.string n,vI o,vI p,vI q,.int .i32 r,vI s,.slice t u v,.int .u32 w,vI x]]=fD a b c d e f g h i j k l m n o p q r s t u v w x:=by kernel_rfl
def ka (a:Option Addr) (b c:Nat) (d:Option Addr) (e f:Nat):T :=
 cond ((b:Int) != (e:Int))
 (T.ret (.bool false))
 (T.loop [(false,[.bool]),(false,[.int .i64])] [.bool false,vI 0] fun g h =>
 cond (decide (h<(b:Int)))
 (T.need (((0:Int)≤h)∧(h<(b:Int))) <|
 T.au a fun i =>
 T.ae (i.add ((Int.toNat h)*10)) yI fun j k l m n o p q r s t u =>
 T.need (((0:Int)≤h)∧(h<(e:Int))) <|
 T.au d fun v =>
 T.ae (v.add ((Int.toNat h)*10)) yI fun w x y z A B C D E F G H =>
 T.call Tryz.prog 61 [.agg #[vI j,.string k,vI l,vI m,vI n,.int .i32 o,vI p,.slice q r s,.int .u32 t,vI u],.agg #[vI w,.string x,vI y,vI z,vI A,.int .i32 B,vI C,.slice D E F,.int .u32 G,vI H]] false [(false,[.bool])] fun I =>
 cond (!I)
 (T.ret (.bool false))
 (T.again 0 [.bool g,vI (IntKind.wrap .i64 (h+(1:Int)))]))
 (T.ret (.bool true)))
theorem iE (a:Option Addr) (b c:Nat) (d:Option Addr) (e f:Nat):aX Tryz.prog [] Tryz.f31 [.slice a b c,.slice d e f]=ka a b c d e f:=by kernel_rfl
def kE (a:Option Addr) (b c:Nat) (d:Option Addr) (e f:Nat):T :=
 cond ((b:Int) != (e:Int))
 (T.ret (.bool false))
 (T.loop [(false,[.bool]),(false,[.int .i64])] [.bool false,vI 0] fun g h =>
 cond (decide (h<(b:Int)))
 (T.need (((0:Int)≤h)∧(h<(b:Int))) <|
 T.au a fun i =>
 T.ae (i.add ((Int.toNat h)*3)) [.string] fun j =>
 T.need (((0:Int)≤h)∧(h<(e:Int))) <|
 T.au d fun k =>
 T.ae (k.add ((Int.toNat h)*3)) [.string] fun l =>
 cond (!((ByteArray.toList j)==(ByteArray.toList l)))
 (T.ret (.bool false))
 (T.need (((0:Int)≤h)∧(h<(b:Int))) <|
 T.au a fun m =>
 T.ae ((m.add ((Int.toNat h)*3)).add 1) [.slice 109,.int .u32] fun n o p q =>
 T.need (((0:Int)≤h)∧(h<(e:Int))) <|
 T.au d fun r =>
 T.ae ((r.add ((Int.toNat h)*3)).add 1) [.slice 109,.int .u32] fun s t u v =>
 T.call Tryz.prog 75 [.agg #[.slice n o p,.int .u32 q],.agg #[.slice s t u,.int .u32 v]] false [(false,[.bool])] fun w =>
 T.aR [((k.add ((Int.toNat h)*3)),[.string l]),((i.add ((Int.toNat h)*3)),[.string j])] <|
 cond (!w)
 (T.ret (.bool false))
 (T.again 0 [.bool g,vI (IntKind.wrap .i64 (h+(1:Int)))])))
 (T.ret (.bool true)))
theorem jo (a:Option Addr) (b c:Nat) (d:Option Addr) (e f:Nat):aX Tryz.prog [] Tryz.f41 [.slice a b c,.slice d e f]=kE a b c d e f:=by kernel_rfl
def iJ (a:Option Addr) (b c:Nat) (d:Option Addr) (e f:Nat):T :=
 cond ((b:Int) != (e:Int))
 (T.ret (.bool false))
 (T.loop [(false,[.bool]),(false,[.int .i64])] [.bool false,vI 0] fun g h =>
 cond (decide (h<(b:Int)))
 (T.need (((0:Int)≤h)∧(h<(b:Int))) <|
 T.au a fun i =>
 T.ae (i.add ((Int.toNat h)*1)) [.string] fun j =>
 T.need (((0:Int)≤h)∧(h<(e:Int))) <|
 T.au d fun k =>
 T.ae (k.add ((Int.toNat h)*1)) [.string] fun l =>
 cond (!((ByteArray.toList j)==(ByteArray.toList l)))
 (T.ret (.bool false))
 (T.again 0 [.bool g,vI (IntKind.wrap .i64 (h+(1:Int)))]))
 (T.ret (.bool true)))
theorem gM (a:Option Addr) (b c:Nat) (d:Option Addr) (e f:Nat):aX Tryz.prog [] Tryz.f15 [.slice a b c,.slice d e f]=iJ a b c d e f:=by kernel_rfl
def fC (a:Option Addr) (b c:Nat) (d:Option Addr) (e f:Nat) (g:Option Addr) (h i:Nat) (j:Option Addr) (k l:Nat) (m:Option Addr) (n o:Nat) (p:Option Addr) (q r:Nat) (s:Option Addr) (t u:Nat) (v:Option Addr) (w x:Nat):T :=
 T.new [.slice a b c,.slice d e f,.slice g h i,.slice j k l] 27 fun y =>
 T.new [.slice m n o,.slice p q r,.slice s t u,.slice v w x] 27 fun z =>
 T.ae y [.slice 96] fun A B C =>
 T.ae z [.slice 96] fun D E F =>
 T.call Tryz.prog 31 [.slice A B C,.slice D E F] false [(false,[.bool])] fun G =>
 cond G
 (T.ae (y.add 1) [.slice 96] fun H I J =>
 T.ae (z.add 1) [.slice 96] fun K L M =>
 T.call Tryz.prog 31 [.slice H I J,.slice K L M] false [(false,[.bool])] fun N =>
 cond N
 (T.ae (y.add 2) [.slice 99] fun O P Q =>
 T.ae (z.add 2) [.slice 99] fun R S U =>
 T.call Tryz.prog 41 [.slice O P Q,.slice R S U] false [(false,[.bool])] fun V =>
 cond V
 (T.ae (y.add 3) [.slice 9] fun W X Y =>
 T.ae (z.add 3) [.slice 9] fun Z a0 a1 =>
 T.call Tryz.prog 15 [.slice W X Y,.slice Z a0 a1] false [(false,[.bool])] fun a2 =>
 T.ret (.bool a2))
 (T.ret (.bool false)))
 (T.ret (.bool false)))
 (T.ret (.bool false))
theorem iU (a:Option Addr) (b c:Nat) (d:Option Addr) (e f:Nat) (g:Option Addr) (h i:Nat) (j:Option Addr) (k l:Nat) (m:Option Addr) (n o:Nat) (p:Option Addr) (q r:Nat) (s:Option Addr) (t u:Nat) (v:Option Addr) (w x:Nat):aX Tryz.prog [] Tryz.f13 [.agg #[.slice a b c,.slice d e f,.slice g h i,.slice j k l],.agg #[.slice m n o,.slice p q r,.slice s t u,.slice v w x]]=fC a b c d e f g h i j k l m n o p q r s t u v w x:=by kernel_rfl
def iD (a:Int):T :=
 cond (a==(0:Int))
 (T.ret (.string ⟨#[110,111,32,101,114,114,111,114]⟩))
 (cond (a==(1:Int))
 (T.ret (.string ⟨#[97,110,32,97,114,103,117,109,101,110,116,32,116,104,97,116,32,109,97,121,32,110,111,116,32,98,101]⟩))
 (cond (a==(20:Int))
 (T.ret (.string ⟨#[97,32,108,105,110,101,32,116,104,97,116,32,99,97,110,39,116,32,98,101,32,114,101,97,100]⟩))
 (cond (a==(23:Int))
 (T.ret (.string ⟨#[97,32,110,97,109,101,32,116,104,97,116,32,110,111,98,111,100,121,32,103,105,118,101,115]⟩))
 (cond (decide (a<(0:Int)))
 (T.loop [(false,[.int .i64]),(false,[.slice 0])] [vI 0,.slice none 0 0] fun b c d e =>
 cond (decide (b>(0:Int)))
 (T.need ((10:Int)≠(0:Int)) <|
 T.aY Tryz.prog (Instr.buildSlice 42 1 #[(0,.int .u8 (IntKind.wrap .u8 (IntKind.wrap .i64 ((48:Int)+(Int.tmod b (10:Int))))))]) false [(false,[.slice 0])] fun f g h =>
 T.aY Tryz.prog (Builtin.append_ #[42,42] 42 #[.slice f g h,.slice c d e]) false [(false,[.slice 0])] fun i j k =>
 T.need ((10:Int)≠(0:Int)) <|
 T.again 0 [vI (IntKind.wrap .i64 (Int.tdiv b (10:Int))),.slice i j k])
 (cond ((d:Int)==(0:Int))
 (T.need ((10:Int)≠(0:Int)) <|
 T.aY Tryz.prog (Instr.buildSlice 42 1 #[(0,.int .u8 (IntKind.wrap .u8 (IntKind.wrap .i64 ((48:Int)+(Int.tmod b (10:Int))))))]) false [(false,[.slice 0])] fun f g h =>
 T.aY Tryz.prog (Builtin.append_ #[42,42] 42 #[.slice f g h,.slice c d e]) false [(false,[.slice 0])] fun i j k =>
 T.need ((10:Int)≠(0:Int)) <|
 T.again 0 [vI (IntKind.wrap .i64 (Int.tdiv b (10:Int))),.slice i j k])
 (T.aY Tryz.prog (convert 42 9 (.slice c d e)) false [(false,[.string])] fun f =>
 T.need ((((8+f.size):Nat):Int)≤(9223372036854775807:Int)) <|
 T.ret (.string (⟨#[114,101,102,117,115,97,108,32]⟩++f)))))
 (T.loop [(false,[.int .i64]),(false,[.slice 0])] [vI a,.slice none 0 0] fun b c d e =>
 cond (decide (b>(0:Int)))
 (T.need ((10:Int)≠(0:Int)) <|
 T.aY Tryz.prog (Instr.buildSlice 42 1 #[(0,.int .u8 (IntKind.wrap .u8 (IntKind.wrap .i64 ((48:Int)+(Int.tmod b (10:Int))))))]) false [(false,[.slice 0])] fun f g h =>
 T.aY Tryz.prog (Builtin.append_ #[42,42] 42 #[.slice f g h,.slice c d e]) false [(false,[.slice 0])] fun i j k =>
 T.need ((10:Int)≠(0:Int)) <|
 T.again 0 [vI (IntKind.wrap .i64 (Int.tdiv b (10:Int))),.slice i j k])
 (cond ((d:Int)==(0:Int))
 (T.need ((10:Int)≠(0:Int)) <|
 T.aY Tryz.prog (Instr.buildSlice 42 1 #[(0,.int .u8 (IntKind.wrap .u8 (IntKind.wrap .i64 ((48:Int)+(Int.tmod b (10:Int))))))]) false [(false,[.slice 0])] fun f g h =>
 T.aY Tryz.prog (Builtin.append_ #[42,42] 42 #[.slice f g h,.slice c d e]) false [(false,[.slice 0])] fun i j k =>
 T.need ((10:Int)≠(0:Int)) <|
 T.again 0 [vI (IntKind.wrap .i64 (Int.tdiv b (10:Int))),.slice i j k])
 (T.aY Tryz.prog (convert 42 9 (.slice c d e)) false [(false,[.string])] fun f =>
 T.need ((((8+f.size):Nat):Int)≤(9223372036854775807:Int)) <|
 T.ret (.string (⟨#[114,101,102,117,115,97,108,32]⟩++f)))))))))
theorem lu (a:Int):aX Tryz.prog [] Tryz.f72 [vI a]=iD a:=by kernel_rfl
def gl (a:Option Addr):T :=
 T.au a fun b =>
 T.ae b [.int .i64] fun c =>
 T.au a fun d =>
 T.ae (d.add 1) [.int .i64] fun e =>
 T.call Tryz.prog 71 [vI c] false [(false,[.string])] fun f =>
 T.aR [((d.add 1),[vI e])] <|
 T.need ((((5+f.size):Nat):Int)≤(9223372036854775807:Int)) <|
 T.need (((((ByteArray.size (⟨#[108,105,110,101,32]⟩++f))+2):Nat):Int)≤(9223372036854775807:Int)) <|
 T.call Tryz.prog 72 [vI e] false [(false,[.string])] fun g =>
 T.aR [(b,[vI c])] <|
 T.need (((((ByteArray.size ((⟨#[108,105,110,101,32]⟩++f)++⟨#[58,32]⟩))+g.size):Nat):Int)≤(9223372036854775807:Int)) <|
 T.ret (.string (((⟨#[108,105,110,101,32]⟩++f)++⟨#[58,32]⟩)++g))
theorem ke (a:Option Addr):aX Tryz.prog [] Tryz.f37 [.pointer a]=gl a:=by kernel_rfl
def fM (a:Option Addr):T :=
 T.au a fun b =>
 T.ae (b.add 1) [.int .i64] fun c =>
 T.ret (.iface 44 (vI c))
theorem jK (a:Option Addr):aX Tryz.prog [] Tryz.f39 [.pointer a]=fM a:=by kernel_rfl
def fT (a:Value) (b:Value):T :=
 T.aY Tryz.prog (Sx.bM (BinOp.eql) 29 (Operand.tmp 5) (Operand.const Value.nilIface) a .nilIface) false [(false,[.bool])] fun c =>
 cond c
 (T.aY Tryz.prog (Sx.bM (BinOp.eql) 29 (Operand.tmp 11) (Operand.const Value.nilIface) a .nilIface) false [(false,[.bool])] fun d =>
 cond d
 (T.aY Tryz.prog (Sx.bM (BinOp.eql) 29 (Operand.tmp 14) (Operand.const Value.nilIface) b .nilIface) false [(false,[.bool])] fun e =>
 T.ret (.bool e))
 (T.ret (.bool false)))
 (T.aY Tryz.prog (Sx.bM (BinOp.eql) 29 (Operand.tmp 8) (Operand.const Value.nilIface) b .nilIface) false [(false,[.bool])] fun d =>
 cond d
 (T.aY Tryz.prog (Sx.bM (BinOp.eql) 29 (Operand.tmp 11) (Operand.const Value.nilIface) a .nilIface) false [(false,[.bool])] fun e =>
 cond e
 (T.aY Tryz.prog (Sx.bM (BinOp.eql) 29 (Operand.tmp 14) (Operand.const Value.nilIface) b .nilIface) false [(false,[.bool])] fun f =>
 T.ret (.bool f))
 (T.ret (.bool false)))
 (T.aY Tryz.prog (Sx.bM (BinOp.eql) 29 (Operand.tmp 17) (Operand.tmp 18) a b) false [(false,[.bool])] fun e =>
 T.ret (.bool e)))
theorem jL (a:Value) (b:Value):aX Tryz.prog [] Tryz.f38 [a,b]=fT a b:=by kernel_rfl
end Go.Sx
