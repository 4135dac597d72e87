/- Trees of functions, each checked by the kernel against the code. No condition. -/
import Derived.Test.YtfkjiiapldkoeaaGreatDoorSxF
import Derived.Test.YtfkjiiapldkoeaaGreatDoorProg
import Derived.KernelRfl
set_option linter.unusedVariables false
set_option linter.unusedSimpArgs false
set_option linter.deprecated false
set_option maxRecDepth 100000
namespace Go.Sx
open Go.Proofs
def oM (a:ByteArray) (b:Int):T :=
 T.call Tryz.prog 145 [.string a,.int .u8 b] false [(false,[.int .i64])] fun c =>
 T.ret (vI c)
theorem kX (a:ByteArray) (b:Int):aX Tryz.prog [] Tryz.f118 [.string a,.int .u8 b]=oM a b:=by kernel_rfl
def fL (a:ByteArray) (b:Int):T :=
 T.aY Tryz.prog (Sx.FO 174 #[.string a,.int .u8 b]) false [(false,[.int .i64])] fun c =>
 T.ret (vI c)
theorem eX (a:ByteArray) (b:Int):aX Tryz.prog [] Tryz.f145 [.string a,.int .u8 b]=fL a b:=by kernel_rfl
def Ek (a:ByteArray) (b:ByteArray):T :=
 T.loop [(false,[.int .i64])] [vI 0] fun c =>
 cond (decide (c<(a.size:Int)))
 (T.need (((0:Int)≤c)∧(c<(a.size:Int))) <|
 T.call Tryz.prog 118 [.string b,.int .u8 (bN a c)] false [(false,[.int .i64])] fun d =>
 cond (decide (d≥(0:Int)))
 (T.again 0 [vI (IntKind.wrap .i64 (c+(1:Int)))])
 (T.ret (vI c)))
 (T.ret (vI c))
theorem zl (a:ByteArray) (b:ByteArray):aX Tryz.prog [] Tryz.f82 [.string a,.string b]=Ek a b:=by kernel_rfl
def mZ (a:ByteArray):T :=
 cond ((a.size:Int) != (2:Int))
 (T.ret (.tuple #[vI 0,.bool false,.bool false]))
 (T.need (((0:Int)≤(1:Int))∧((1:Int)<(a.size:Int))) <|
 T.need (((0:Int)≤(0:Int))∧((0:Int)<(a.size:Int))) <|
 cond ((bN a (0:Int))==(114:Int))
 (cond (decide ((IntKind.wrap .i64 ((IntKind.wrap .i64 (bN a (1:Int)))-(48:Int)))≥(0:Int)))
 (cond (decide ((IntKind.wrap .i64 ((IntKind.wrap .i64 (bN a (1:Int)))-(48:Int)))<(8:Int)))
 (T.ret (.tuple #[vI (IntKind.wrap .i64 ((IntKind.wrap .i64 (bN a (1:Int)))-(48:Int))),.bool false,.bool true]))
 (T.need (((0:Int)≤(0:Int))∧((0:Int)<(a.size:Int))) <|
 cond ((bN a (0:Int))==(122:Int))
 (cond (decide ((IntKind.wrap .i64 ((IntKind.wrap .i64 (bN a (1:Int)))-(48:Int)))≥(0:Int)))
 (cond (decide ((IntKind.wrap .i64 ((IntKind.wrap .i64 (bN a (1:Int)))-(48:Int)))<(4:Int)))
 (T.ret (.tuple #[vI (IntKind.wrap .i64 ((IntKind.wrap .i64 (bN a (1:Int)))-(48:Int))),.bool true,.bool true]))
 (T.ret (.tuple #[vI 0,.bool false,.bool false])))
 (T.ret (.tuple #[vI 0,.bool false,.bool false])))
 (T.ret (.tuple #[vI 0,.bool false,.bool false]))))
 (T.need (((0:Int)≤(0:Int))∧((0:Int)<(a.size:Int))) <|
 cond ((bN a (0:Int))==(122:Int))
 (cond (decide ((IntKind.wrap .i64 ((IntKind.wrap .i64 (bN a (1:Int)))-(48:Int)))≥(0:Int)))
 (cond (decide ((IntKind.wrap .i64 ((IntKind.wrap .i64 (bN a (1:Int)))-(48:Int)))<(4:Int)))
 (T.ret (.tuple #[vI (IntKind.wrap .i64 ((IntKind.wrap .i64 (bN a (1:Int)))-(48:Int))),.bool true,.bool true]))
 (T.ret (.tuple #[vI 0,.bool false,.bool false])))
 (T.ret (.tuple #[vI 0,.bool false,.bool false])))
 (T.ret (.tuple #[vI 0,.bool false,.bool false]))))
 (T.need (((0:Int)≤(0:Int))∧((0:Int)<(a.size:Int))) <|
 cond ((bN a (0:Int))==(122:Int))
 (cond (decide ((IntKind.wrap .i64 ((IntKind.wrap .i64 (bN a (1:Int)))-(48:Int)))≥(0:Int)))
 (cond (decide ((IntKind.wrap .i64 ((IntKind.wrap .i64 (bN a (1:Int)))-(48:Int)))<(4:Int)))
 (T.ret (.tuple #[vI (IntKind.wrap .i64 ((IntKind.wrap .i64 (bN a (1:Int)))-(48:Int))),.bool true,.bool true]))
 (T.ret (.tuple #[vI 0,.bool false,.bool false])))
 (T.ret (.tuple #[vI 0,.bool false,.bool false])))
 (T.ret (.tuple #[vI 0,.bool false,.bool false]))))
theorem re (a:ByteArray):aX Tryz.prog [] Tryz.f81 [.string a]=mZ a:=by kernel_rfl
def sO (a:ByteArray):T :=
 T.call Tryz.prog 81 [.string a] true [(false,[.int .i64]),(false,[.bool]),(false,[.bool])] fun b c d =>
 cond (!((ByteArray.toList a)==[]))
 (cond (decide ((a.size:Int)≤(32:Int)))
 (T.call Tryz.prog 82 [.string a,.string ⟨#[97,98,99,100,101,102,103,104,105,106,107,108,109,110,111,112,113,114,115,116,117,118,119,120,121,122,65,66,67,68,69,70,71,72,73,74,75,76,77,78,79,80,81,82,83,84,85,86,87,88,89,90,95]⟩] false [(false,[.int .i64])] fun e =>
 cond (decide (e>(0:Int)))
 (T.call Tryz.prog 82 [.string a,.string ⟨#[97,98,99,100,101,102,103,104,105,106,107,108,109,110,111,112,113,114,115,116,117,118,119,120,121,122,65,66,67,68,69,70,71,72,73,74,75,76,77,78,79,80,81,82,83,84,85,86,87,88,89,90,95,48,49,50,51,52,53,54,55,56,57]⟩] false [(false,[.int .i64])] fun f =>
 cond (f==(a.size:Int))
 (T.ret (.bool (!d)))
 (T.ret (.bool false)))
 (T.ret (.bool false)))
 (T.ret (.bool false)))
 (T.ret (.bool false))
theorem vN (a:ByteArray):aX Tryz.prog [] Tryz.f45 [.string a]=sO a:=by kernel_rfl
def oF (a:ByteArray) (b:ByteArray):T :=
 T.call Tryz.prog 176 [.string a,.string b] false [(false,[.bool])] fun c =>
 T.ret (.bool c)
theorem lc (a:ByteArray) (b:ByteArray):aX Tryz.prog [] Tryz.f149 [.string a,.string b]=oF a b:=by kernel_rfl
def dp (a:ByteArray) (b:ByteArray):T :=
 cond (decide ((a.size:Int)≥(b.size:Int)))
 (T.need (((0:Int)≤(0:Int))∧(((0:Int)≤(b.size:Int))∧((b.size:Int)≤(a.size:Int)))) <|
 T.ret (.bool ((ByteArray.toList (ByteArray.extract a 0 (Int.toNat (b.size:Int))))==(ByteArray.toList b))))
 (T.ret (.bool false))
theorem eZ (a:ByteArray) (b:ByteArray):aX Tryz.prog [] Tryz.f176 [.string a,.string b]=dp a b:=by kernel_rfl
def rE (a:ByteArray):T :=
 T.call Tryz.prog 82 [.string a,.string ⟨#[48,49,50,51,52,53,54,55,56,57]⟩] false [(false,[.int .i64])] fun b =>
 T.call Tryz.prog 149 [.string a,.string ⟨#[48,120]⟩] false [(false,[.bool])] fun c =>
 cond c
 (T.need (((0:Int)≤(2:Int))∧(((2:Int)≤(a.size:Int))∧((a.size:Int)≤(a.size:Int)))) <|
 T.call Tryz.prog 82 [.string (ByteArray.extract a 2 (Int.toNat (a.size:Int))),.string ⟨#[48,49,50,51,52,53,54,55,56,57,97,98,99,100,101,102]⟩] false [(false,[.int .i64])] fun d =>
 cond (decide (d>(8:Int)))
 (T.ret (.tuple #[vI 0,.int .u32 0]))
 (T.need (((0:Int)≤(2:Int))∧(((2:Int)≤(IntKind.wrap .i64 ((2:Int)+d)))∧((IntKind.wrap .i64 ((2:Int)+d))≤(a.size:Int)))) <|
 T.call Tryz.prog 150 [.string (ByteArray.extract a 2 (Int.toNat (IntKind.wrap .i64 ((2 : Int) + d)))), vI 16, vI 32] true [(false, [.int .u64]), (false, [.interface #[("Error", 85)]])] fun (e : Int) (f : Value) =>
 T.aY Tryz.prog (Sx.bM (BinOp.neq) 29 (Operand.tmp 37) (Operand.const Value.nilIface) f .nilIface) false [(false,[.bool])] fun g =>
 cond g
 (T.ret (.tuple #[vI 0,.int .u32 0]))
 (T.ret (.tuple #[vI (IntKind.wrap .i64 ((2:Int)+d)),.int .u32 (IntKind.wrap .u32 e)]))))
 (cond (decide (b>(1:Int)))
 (T.need (((0:Int)≤(0:Int))∧((0:Int)<(a.size:Int))) <|
 cond ((bN a (0:Int))==(48:Int))
 (T.ret (.tuple #[vI 0,.int .u32 0]))
 (T.need (((0:Int)≤(0:Int))∧(((0:Int)≤(IntKind.wrap .i64 ((0:Int)+b)))∧((IntKind.wrap .i64 ((0:Int)+b))≤(a.size:Int)))) <|
 T.call Tryz.prog 150 [.string (ByteArray.extract a 0 (Int.toNat (IntKind.wrap .i64 ((0 : Int) + b)))), vI 10, vI 32] true [(false, [.int .u64]), (false, [.interface #[("Error", 85)]])] fun (d : Int) (e : Value) =>
 T.aY Tryz.prog (Sx.bM (BinOp.neq) 29 (Operand.tmp 37) (Operand.const Value.nilIface) e .nilIface) false [(false,[.bool])] fun f =>
 cond f
 (T.ret (.tuple #[vI 0,.int .u32 0]))
 (T.ret (.tuple #[vI (IntKind.wrap .i64 ((0:Int)+b)),.int .u32 (IntKind.wrap .u32 d)]))))
 (T.need (((0:Int)≤(0:Int))∧(((0:Int)≤(IntKind.wrap .i64 ((0:Int)+b)))∧((IntKind.wrap .i64 ((0:Int)+b))≤(a.size:Int)))) <|
 T.call Tryz.prog 150 [.string (ByteArray.extract a 0 (Int.toNat (IntKind.wrap .i64 ((0 : Int) + b)))), vI 10, vI 32] true [(false, [.int .u64]), (false, [.interface #[("Error", 85)]])] fun (d : Int) (e : Value) =>
 T.aY Tryz.prog (Sx.bM (BinOp.neq) 29 (Operand.tmp 37) (Operand.const Value.nilIface) e .nilIface) false [(false,[.bool])] fun f =>
 cond f
 (T.ret (.tuple #[vI 0,.int .u32 0]))
 (T.ret (.tuple #[vI (IntKind.wrap .i64 ((0:Int)+b)),.int .u32 (IntKind.wrap .u32 d)]))))
theorem tW (a:ByteArray):aX Tryz.prog [] Tryz.f123 [.string a]=rE a:=by kernel_rfl
def qH (a:ByteArray):T :=
 T.new [vI 0,.string ⟨#[]⟩,.int .u32 0,vI 0] 178 fun b =>
 T.loop [(false,[.slice 0]),(false,[.int .i64]),(false,[.int .i64]),(false,[.slice 0]),(false,[.pointer 0]),(false,[.int .i64]),(false,[.int .i64])] [.slice none 0 0,vI 0,vI 0,.slice none 0 0,.pointer (some b),vI 0,vI 0] fun c d e f g h i j k l m =>
 T.need (((0:Int)≤m)∧((m≤(a.size:Int))∧((a.size:Int)≤(a.size:Int)))) <|
 T.call Tryz.prog 82 [.string (ByteArray.extract a (Int.toNat m) (Int.toNat (a.size:Int))),.string ⟨#[9,13,32]⟩] false [(false,[.int .i64])] fun n =>
 cond ((IntKind.wrap .i64 (m+n))==(a.size:Int))
 (T.ret (.tuple #[.slice h i j,vI 0,vI 0]))
 (T.need (((0:Int)≤(IntKind.wrap .i64 (m+n)))∧((IntKind.wrap .i64 (m+n))<(a.size:Int))) <|
 cond ((bN a (IntKind.wrap .i64 (m+n)))==(59:Int))
 (T.ret (.tuple #[.slice h i j,vI 0,vI 0]))
 (T.au k fun o =>
 T.ap o [vI 0,.string ⟨#[]⟩,.int .u32 0,vI (IntKind.wrap .i64 (m+n))] <|
 T.need (((0:Int)≤(IntKind.wrap .i64 (m+n)))∧((IntKind.wrap .i64 (m+n))<(a.size:Int))) <|
 T.need (((0:Int)≤(IntKind.wrap .i64 (m+n)))∧(((IntKind.wrap .i64 (m+n))≤(a.size:Int))∧((a.size:Int)≤(a.size:Int)))) <|
 T.call Tryz.prog 82 [.string (ByteArray.extract a (Int.toNat (IntKind.wrap .i64 (m+n))) (Int.toNat (a.size:Int))),.string ⟨#[97,98,99,100,101,102,103,104,105,106,107,108,109,110,111,112,113,114,115,116,117,118,119,120,121,122,65,66,67,68,69,70,71,72,73,74,75,76,77,78,79,80,81,82,83,84,85,86,87,88,89,90,95]⟩] false [(false,[.int .i64])] fun p =>
 cond (decide (p>(0:Int)))
 (T.au k fun q =>
 T.ap q [vI 1] <|
 T.need (((0:Int)≤(IntKind.wrap .i64 (m+n)))∧(((IntKind.wrap .i64 (m+n))≤(a.size:Int))∧((a.size:Int)≤(a.size:Int)))) <|
 T.call Tryz.prog 82 [.string (ByteArray.extract a (Int.toNat (IntKind.wrap .i64 (m+n))) (Int.toNat (a.size:Int))),.string ⟨#[97,98,99,100,101,102,103,104,105,106,107,108,109,110,111,112,113,114,115,116,117,118,119,120,121,122,65,66,67,68,69,70,71,72,73,74,75,76,77,78,79,80,81,82,83,84,85,86,87,88,89,90,95,48,49,50,51,52,53,54,55,56,57]⟩] false [(false,[.int .i64])] fun r =>
 cond (decide (r>(32:Int)))
 (T.ret (.tuple #[.slice none 0 0,vI (IntKind.wrap .i64 (m+n)),vI 20]))
 (T.need (((0:Int)≤(IntKind.wrap .i64 (m+n)))∧(((IntKind.wrap .i64 (m+n))≤(IntKind.wrap .i64 ((IntKind.wrap .i64 (m+n))+r)))∧((IntKind.wrap .i64 ((IntKind.wrap .i64 (m+n))+r))≤(a.size:Int)))) <|
 T.au k fun s =>
 T.ap (s.add 1) [.string (ByteArray.extract a (Int.toNat (IntKind.wrap .i64 (m+n))) (Int.toNat (IntKind.wrap .i64 ((IntKind.wrap .i64 (m+n))+r))))] <|
 T.au k fun t =>
 T.ae t [.int .i64,.string,.int .u32,.int .i64] fun u v w x =>
 T.aY Tryz.prog (Instr.buildSlice 174 1 #[(0,.agg #[vI u,.string v,.int .u32 w,vI x])]) false [(false,[.slice 0])] fun y z A =>
 T.aY Tryz.prog (Builtin.append_ #[174,174] 174 #[.slice h i j,.slice y z A]) false [(false,[.slice 0])] fun B C D =>
 T.again 0 [.slice c d e,vI f,vI g,.slice B C D,.pointer k,vI r,vI (IntKind.wrap .i64 ((IntKind.wrap .i64 (m+n))+r))]))
 (T.need (((0:Int)≤(IntKind.wrap .i64 (m+n)))∧(((IntKind.wrap .i64 (m+n))≤(a.size:Int))∧((a.size:Int)≤(a.size:Int)))) <|
 T.call Tryz.prog 82 [.string (ByteArray.extract a (Int.toNat (IntKind.wrap .i64 (m+n))) (Int.toNat (a.size:Int))),.string ⟨#[48,49,50,51,52,53,54,55,56,57]⟩] false [(false,[.int .i64])] fun q =>
 cond (decide (q>(0:Int)))
 (T.au k fun r =>
 T.ap r [vI 2] <|
 T.need (((0:Int)≤(IntKind.wrap .i64 (m+n)))∧(((IntKind.wrap .i64 (m+n))≤(a.size:Int))∧((a.size:Int)≤(a.size:Int)))) <|
 T.call Tryz.prog 123 [.string (ByteArray.extract a (Int.toNat (IntKind.wrap .i64 (m+n))) (Int.toNat (a.size:Int)))] true [(false,[.int .i64]),(false,[.int .u32])] fun s t =>
 T.au k fun u =>
 T.ap (u.add 2) [.int .u32 t] <|
 cond (s==(0:Int))
 (T.ret (.tuple #[.slice none 0 0,vI (IntKind.wrap .i64 (m+n)),vI 20]))
 (T.need (((0:Int)≤(IntKind.wrap .i64 ((IntKind.wrap .i64 (m+n))+s)))∧(((IntKind.wrap .i64 ((IntKind.wrap .i64 (m+n))+s))≤(a.size:Int))∧((a.size:Int)≤(a.size:Int)))) <|
 T.call Tryz.prog 82 [.string (ByteArray.extract a (Int.toNat (IntKind.wrap .i64 ((IntKind.wrap .i64 (m+n))+s))) (Int.toNat (a.size:Int))),.string ⟨#[97,98,99,100,101,102,103,104,105,106,107,108,109,110,111,112,113,114,115,116,117,118,119,120,121,122,65,66,67,68,69,70,71,72,73,74,75,76,77,78,79,80,81,82,83,84,85,86,87,88,89,90,95,48,49,50,51,52,53,54,55,56,57]⟩] false [(false,[.int .i64])] fun v =>
 cond (decide (v>(0:Int)))
 (T.ret (.tuple #[.slice none 0 0,vI (IntKind.wrap .i64 (m+n)),vI 20]))
 (T.need (((0:Int)≤(IntKind.wrap .i64 (m+n)))∧(((IntKind.wrap .i64 (m+n))≤(IntKind.wrap .i64 ((IntKind.wrap .i64 (m+n))+s)))∧((IntKind.wrap .i64 ((IntKind.wrap .i64 (m+n))+s))≤(a.size:Int)))) <|
 T.au k fun w =>
 T.ap (w.add 1) [.string (ByteArray.extract a (Int.toNat (IntKind.wrap .i64 (m+n))) (Int.toNat (IntKind.wrap .i64 ((IntKind.wrap .i64 (m+n))+s))))] <|
 T.au k fun x =>
 T.ae x [.int .i64,.string,.int .u32,.int .i64] fun y z A B =>
 T.aY Tryz.prog (Instr.buildSlice 174 1 #[(0,.agg #[vI y,.string z,.int .u32 A,vI B])]) false [(false,[.slice 0])] fun C D E =>
 T.aY Tryz.prog (Builtin.append_ #[174,174] 174 #[.slice h i j,.slice C D E]) false [(false,[.slice 0])] fun F G H =>
 T.again 0 [.slice c d e,vI f,vI g,.slice F G H,.pointer k,vI s,vI (IntKind.wrap .i64 ((IntKind.wrap .i64 (m+n))+s))])))
 (cond ((bN a (IntKind.wrap .i64 (m+n)))==(39:Int))
 (cond (decide ((IntKind.wrap .i64 ((a.size:Int)-(IntKind.wrap .i64 (m+n))))<(3:Int)))
 (T.ret (.tuple #[.slice none 0 0,vI (IntKind.wrap .i64 (m+n)),vI 20]))
 (T.need (((0:Int)≤(IntKind.wrap .i64 ((IntKind.wrap .i64 (m+n))+(1:Int))))∧((IntKind.wrap .i64 ((IntKind.wrap .i64 (m+n))+(1:Int)))<(a.size:Int))) <|
 cond (decide ((bN a (IntKind.wrap .i64 ((IntKind.wrap .i64 (m+n))+(1:Int))))<(32:Int)))
 (T.ret (.tuple #[.slice none 0 0,vI (IntKind.wrap .i64 (m+n)),vI 20]))
 (T.need (((0:Int)≤(IntKind.wrap .i64 ((IntKind.wrap .i64 (m+n))+(1:Int))))∧((IntKind.wrap .i64 ((IntKind.wrap .i64 (m+n))+(1:Int)))<(a.size:Int))) <|
 cond (decide ((bN a (IntKind.wrap .i64 ((IntKind.wrap .i64 (m+n))+(1:Int))))>(126:Int)))
 (T.ret (.tuple #[.slice none 0 0,vI (IntKind.wrap .i64 (m+n)),vI 20]))
 (T.need (((0:Int)≤(IntKind.wrap .i64 ((IntKind.wrap .i64 (m+n))+(1:Int))))∧((IntKind.wrap .i64 ((IntKind.wrap .i64 (m+n))+(1:Int)))<(a.size:Int))) <|
 cond ((bN a (IntKind.wrap .i64 ((IntKind.wrap .i64 (m+n))+(1:Int))))==(39:Int))
 (T.ret (.tuple #[.slice none 0 0,vI (IntKind.wrap .i64 (m+n)),vI 20]))
 (T.need (((0:Int)≤(IntKind.wrap .i64 ((IntKind.wrap .i64 (m+n))+(2:Int))))∧((IntKind.wrap .i64 ((IntKind.wrap .i64 (m+n))+(2:Int)))<(a.size:Int))) <|
 cond ((bN a (IntKind.wrap .i64 ((IntKind.wrap .i64 (m+n))+(2:Int)))) != (39:Int))
 (T.ret (.tuple #[.slice none 0 0,vI (IntKind.wrap .i64 (m+n)),vI 20]))
 (T.need (((0:Int)≤(IntKind.wrap .i64 ((IntKind.wrap .i64 (m+n))+(1:Int))))∧((IntKind.wrap .i64 ((IntKind.wrap .i64 (m+n))+(1:Int)))<(a.size:Int))) <|
 T.au k fun r =>
 T.ap r [vI 2] <|
 T.au k fun s =>
 T.ap (s.add 2) [.int .u32 (IntKind.wrap .u32 (bN a (IntKind.wrap .i64 ((IntKind.wrap .i64 (m+n))+(1:Int)))))] <|
 T.need (((0:Int)≤(IntKind.wrap .i64 (m+n)))∧(((IntKind.wrap .i64 (m+n))≤(IntKind.wrap .i64 ((IntKind.wrap .i64 (m+n))+(3:Int))))∧((IntKind.wrap .i64 ((IntKind.wrap .i64 (m+n))+(3:Int)))≤(a.size:Int)))) <|
 T.au k fun t =>
 T.ap (t.add 1) [.string (ByteArray.extract a (Int.toNat (IntKind.wrap .i64 (m+n))) (Int.toNat (IntKind.wrap .i64 ((IntKind.wrap .i64 (m+n))+(3:Int)))))] <|
 T.au k fun u =>
 T.ae u [.int .i64,.string,.int .u32,.int .i64] fun v w x y =>
 T.aY Tryz.prog (Instr.buildSlice 174 1 #[(0,.agg #[vI v,.string w,.int .u32 x,vI y])]) false [(false,[.slice 0])] fun z A B =>
 T.aY Tryz.prog (Builtin.append_ #[174,174] 174 #[.slice h i j,.slice z A B]) false [(false,[.slice 0])] fun C D E =>
 T.again 0 [.slice c d e,vI f,vI g,.slice C D E,.pointer k,vI 3,vI (IntKind.wrap .i64 ((IntKind.wrap .i64 (m+n))+(3:Int)))]))))))
 (T.call Tryz.prog 118 [.string ⟨#[58,44,40,41,43,45,42,61]⟩,.int .u8 (bN a (IntKind.wrap .i64 (m+n)))] false [(false,[.int .i64])] fun r =>
 cond (decide (r≥(0:Int)))
 (T.au k fun s =>
 T.ap s [vI 3] <|
 T.need (((0:Int)≤(IntKind.wrap .i64 (m+n)))∧(((IntKind.wrap .i64 (m+n))≤(IntKind.wrap .i64 ((IntKind.wrap .i64 (m+n))+(1:Int))))∧((IntKind.wrap .i64 ((IntKind.wrap .i64 (m+n))+(1:Int)))≤(a.size:Int)))) <|
 T.au k fun t =>
 T.ap (t.add 1) [.string (ByteArray.extract a (Int.toNat (IntKind.wrap .i64 (m+n))) (Int.toNat (IntKind.wrap .i64 ((IntKind.wrap .i64 (m+n))+(1:Int)))))] <|
 T.au k fun u =>
 T.ae u [.int .i64,.string,.int .u32,.int .i64] fun v w x y =>
 T.aY Tryz.prog (Instr.buildSlice 174 1 #[(0,.agg #[vI v,.string w,.int .u32 x,vI y])]) false [(false,[.slice 0])] fun z A B =>
 T.aY Tryz.prog (Builtin.append_ #[174,174] 174 #[.slice h i j,.slice z A B]) false [(false,[.slice 0])] fun C D E =>
 T.again 0 [.slice c d e,vI f,vI g,.slice C D E,.pointer k,vI 1,vI (IntKind.wrap .i64 ((IntKind.wrap .i64 (m+n))+(1:Int)))])
 (T.ret (.tuple #[.slice none 0 0,vI (IntKind.wrap .i64 (m+n)),vI 20])))))))
theorem tH (a:ByteArray):aX Tryz.prog [] Tryz.f95 [.string a]=qH a:=by kernel_rfl
end Go.Sx
