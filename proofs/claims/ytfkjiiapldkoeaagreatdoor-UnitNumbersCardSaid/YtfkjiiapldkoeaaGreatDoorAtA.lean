/- Trees of functions, each checked by the kernel against the code. No condition. -/
import Derived.Test.YtfkjiiapldkoeaaGreatDoorSxF
import Derived.Test.YtfkjiiapldkoeaaGreatDoorProg
import Derived.KernelRfl
set_option linter.unusedVariables false
set_option linter.unusedSimpArgs false
set_option linter.deprecated false
set_option maxRecDepth 100000
namespace Go.Sx
open Go.Proofs
def t_item_reg (pp00:Option Addr) (ll00 cc00:Nat) (b1:Bool):T :=
 cond ((ll00:Int) != (1:Int))
 (T.ret (.tuple #[vI 0,vI 20]))
 (T.need (((0:Int)≤(0:Int))∧((0:Int)<(ll00:Int))) <|
 T.osome pp00 <| fun a2 =>
 T.loads a2 [.int .i64] <| fun n3 =>
 cond (n3 != (1:Int))
 (T.ret (.tuple #[vI 0,vI 20]))
 (T.need (((0:Int)≤(0:Int))∧((0:Int)<(ll00:Int))) <|
 T.osome pp00 <| fun a4 =>
 T.loads (a4.add 1) [.string] <| fun s5 =>
 T.call Tryz.prog 81 [.string s5] true [(false,[.int .i64]),(false,[.bool]),(false,[.bool])] <| fun n6 b7 b8 =>
 cond (!b8)
 (T.ret (.tuple #[vI 0,vI 20]))
 (cond (!(b7==b1))
 (T.ret (.tuple #[vI 0,vI 20]))
 (T.ret (.tuple #[vI n6,vI 0])))))
theorem t_item_reg_eq (pp00:Option Addr) (ll00 cc00:Nat) (b1:Bool):xfun Tryz.prog [] Tryz.f151 [.slice pp00 ll00 cc00,.bool b1]=t_item_reg pp00 ll00 cc00 b1:=by kernel_rfl
def t_item_number (pp00:Option Addr) (ll00 cc00:Nat) (n1:Int) (n2:Int):T :=
 T.call Tryz.prog 130 [.slice pp00 ll00 cc00] true [(true,[.slice 109,.int .u32]),(false,[.int .i64])] <| fun p3 l4 l5 n6 n7 =>
 T.new [.slice none 0 0,.int .u32 0] 94 <| fun a8 =>
 T.stores a8 [.slice p3 l4 l5,.int .u32 n6] <|
 cond (n7 != (0:Int))
 (T.ret (.tuple #[vI 0,vI n7]))
 (T.loads (a8.add 1) [.int .u32] <| fun n9 =>
 T.loads a8 [.slice 109] <| fun p10 l11 l12 =>
 cond (decide ((l11:Int)>(0:Int)))
 (T.ret (.tuple #[vI 0,vI 21]))
 (cond (decide ((IntKind.wrap .i64 (IntKind.wrap .i32 n9))<n1))
 (T.ret (.tuple #[vI 0,vI 21]))
 (cond (decide ((IntKind.wrap .i64 (IntKind.wrap .i32 n9))>n2))
 (T.ret (.tuple #[vI 0,vI 21]))
 (T.ret (.tuple #[vI (IntKind.wrap .i64 (IntKind.wrap .i32 n9)),vI 0])))))
theorem t_item_number_eq (pp00:Option Addr) (ll00 cc00:Nat) (n1:Int) (n2:Int):xfun Tryz.prog [] Tryz.f127 [.slice pp00 ll00 cc00,vI n1,vI n2]=t_item_number pp00 ll00 cc00 n1 n2:=by kernel_rfl
def t_item_name (pp00:Option Addr) (ll00 cc00:Nat):T :=
 cond ((ll00:Int) != (1:Int))
 (T.ret (.tuple #[.string ⟨#[]⟩,vI 20]))
 (T.need (((0:Int)≤(0:Int))∧((0:Int)<(ll00:Int))) <|
 T.osome pp00 <| fun a1 =>
 T.loads a1 [.int .i64] <| fun n2 =>
 cond (n2 != (1:Int))
 (T.ret (.tuple #[.string ⟨#[]⟩,vI 20]))
 (T.need (((0:Int)≤(0:Int))∧((0:Int)<(ll00:Int))) <|
 T.osome pp00 <| fun a3 =>
 T.loads (a3.add 1) [.string] <| fun s4 =>
 T.call Tryz.prog 45 [.string s4] false [(false,[.bool])] <| fun b5 =>
 cond (!b5)
 (T.ret (.tuple #[.string ⟨#[]⟩,vI 20]))
 (T.need (((0:Int)≤(0:Int))∧((0:Int)<(ll00:Int))) <|
 T.osome pp00 <| fun a6 =>
 T.loads (a6.add 1) [.string] <| fun s7 =>
 T.ret (.tuple #[.string s7,vI 0]))))
theorem t_item_name_eq (pp00:Option Addr) (ll00 cc00:Nat):xfun Tryz.prog [] Tryz.f129 [.slice pp00 ll00 cc00]=t_item_name pp00 ll00 cc00:=by kernel_rfl
def t_item_readers (n0:Int):T :=
 T.new [.bool false,.bool false,.bool false] 253 <| fun a1 =>
 T.new [.bool false,.bool false,.bool false] 253 <| fun a2 =>
 T.stores a1 [.bool false,.bool false,.bool false] <|
 T.stores a2 [.bool false,.bool true,.bool false] <|
 cond (n0==(1:Int))
 (T.ret (.slice none 0 0))
 (cond (n0==(2:Int))
 (T.loads a1 [.bool,.bool,.bool] <| fun b3 b4 b5 =>
 T.sem Tryz.prog (Instr.buildSlice 221 1 #[(0,.iface 253 (.agg #[.bool b3,.bool b4,.bool b5]))]) false [(false,[.slice 0])] <| fun p6 l7 l8 =>
 T.ret (.slice p6 l7 l8))
 (cond (n0==(3:Int))
 (T.sem Tryz.prog (Instr.buildSlice 221 1 #[(0,.iface 253 (.agg #[.bool true,.bool false,.bool false]))]) false [(false,[.slice 0])] <| fun p3 l4 l5 =>
 T.ret (.slice p3 l4 l5))
 (cond (n0==(4:Int))
 (T.loads a1 [.bool,.bool,.bool] <| fun b3 b4 b5 =>
 T.loads a2 [.bool,.bool,.bool] <| fun b6 b7 b8 =>
 T.sem Tryz.prog (Instr.buildSlice 221 2 #[(0,.iface 253 (.agg #[.bool b3,.bool b4,.bool b5])),(1,.iface 253 (.agg #[.bool b6,.bool b7,.bool b8]))]) false [(false,[.slice 0])] <| fun p9 l10 l11 =>
 T.ret (.slice p9 l10 l11))
 (cond (n0==(5:Int))
 (T.sem Tryz.prog (Instr.buildSlice 221 2 #[(0,.iface 253 (.agg #[.bool true,.bool false,.bool false])),(1,.iface 253 (.agg #[.bool true,.bool true,.bool false]))]) false [(false,[.slice 0])] <| fun p3 l4 l5 =>
 T.ret (.slice p3 l4 l5))
 (cond (n0==(6:Int))
 (T.loads a1 [.bool,.bool,.bool] <| fun b3 b4 b5 =>
 T.sem Tryz.prog (Instr.buildSlice 221 2 #[(0,.iface 253 (.agg #[.bool b3,.bool b4,.bool b5])),(1,.iface 253 (.agg #[.bool true,.bool true,.bool false]))]) false [(false,[.slice 0])] <| fun p6 l7 l8 =>
 T.ret (.slice p6 l7 l8))
 (cond (n0==(7:Int))
 (T.loads a2 [.bool,.bool,.bool] <| fun b3 b4 b5 =>
 T.sem Tryz.prog (Instr.buildSlice 221 3 #[(0,.iface 253 (.agg #[.bool true,.bool false,.bool false])),(1,.iface 253 (.agg #[.bool b3,.bool b4,.bool b5])),(2,.iface 253 (.agg #[.bool false,.bool false,.bool true]))]) false [(false,[.slice 0])] <| fun p6 l7 l8 =>
 T.ret (.slice p6 l7 l8))
 (cond (n0==(8:Int))
 (T.loads a1 [.bool,.bool,.bool] <| fun b3 b4 b5 =>
 T.sem Tryz.prog (Instr.buildSlice 221 2 #[(0,.iface 253 (.agg #[.bool b3,.bool b4,.bool b5])),(1,.iface 255 (.agg #[vI (-128:Int),vI 127]))]) false [(false,[.slice 0])] <| fun p6 l7 l8 =>
 T.ret (.slice p6 l7 l8))
 (cond (n0==(9:Int))
 (T.sem Tryz.prog (Instr.buildSlice 221 1 #[(0,.iface 255 (.agg #[vI 0,vI 255]))]) false [(false,[.slice 0])] <| fun p3 l4 l5 =>
 T.ret (.slice p3 l4 l5))
 (cond (n0==(11:Int))
 (T.loads a1 [.bool,.bool,.bool] <| fun b3 b4 b5 =>
 T.sem Tryz.prog (Instr.buildSlice 221 2 #[(0,.iface 253 (.agg #[.bool b3,.bool b4,.bool b5])),(1,.iface 257 (.agg #[.bool true]))]) false [(false,[.slice 0])] <| fun p6 l7 l8 =>
 T.ret (.slice p6 l7 l8))
 (cond (n0==(12:Int))
 (T.sem Tryz.prog (Instr.buildSlice 221 1 #[(0,.iface 257 (.agg #[.bool false]))]) false [(false,[.slice 0])] <| fun p3 l4 l5 =>
 T.ret (.slice p3 l4 l5))
 (T.loads a1 [.bool,.bool,.bool] <| fun b3 b4 b5 =>
 T.sem Tryz.prog (Instr.buildSlice 221 2 #[(0,.iface 253 (.agg #[.bool b3,.bool b4,.bool b5])),(1,.iface 257 (.agg #[.bool false]))]) false [(false,[.slice 0])] <| fun p6 l7 l8 =>
 T.ret (.slice p6 l7 l8))))))))))))
theorem t_item_readers_eq (n0:Int):xfun Tryz.prog [] Tryz.f124 [vI n0]=t_item_readers n0:=by kernel_rfl
def t_item_argument (p0:Option Addr) (v1:Value) (pp20:Option Addr) (ll20 cc20:Nat):T :=
 T.sem Tryz.prog (Instr.typeAssert v1 20 253 true) true [(true,[.bool,.bool,.bool]),(false,[.bool])] <| fun b3 b4 b5 b6 =>
 cond b6
 (T.new [.bool false,.bool false,.bool false] 253 <| fun a7 =>
 T.stores a7 [.bool b3,.bool b4,.bool b5] <|
 T.loads a7 [.bool] <| fun b8 =>
 T.call Tryz.prog 151 [.slice pp20 ll20 cc20,.bool b8] true [(false,[.int .i64]),(false,[.int .i64])] <| fun n9 n10 =>
 T.loads (a7.add 2) [.bool] <| fun b11 =>
 cond b11
 (T.osome p0 <| fun a12 =>
 T.stores ((a12.add 2).add 3) [.int .i32 (IntKind.wrap .i32 n9)] <|
 T.ret (vI n10))
 (T.loads (a7.add 1) [.bool] <| fun b12 =>
 cond b12
 (T.osome p0 <| fun a13 =>
 T.stores ((a13.add 2).add 2) [vI n9] <|
 T.ret (vI n10))
 (T.osome p0 <| fun a13 =>
 T.stores ((a13.add 2).add 1) [vI n9] <|
 T.ret (vI n10))))
 (T.sem Tryz.prog (Instr.typeAssert v1 20 255 true) true [(true,[.int .i64,.int .i64]),(false,[.bool])] <| fun n7 n8 b9 =>
 cond b9
 (T.new [vI 0,vI 0] 255 <| fun a10 =>
 T.stores a10 [vI n7,vI n8] <|
 T.loads a10 [.int .i64] <| fun n11 =>
 T.loads (a10.add 1) [.int .i64] <| fun n12 =>
 T.call Tryz.prog 127 [.slice pp20 ll20 cc20,vI n11,vI n12] true [(false,[.int .i64]),(false,[.int .i64])] <| fun n13 n14 =>
 T.osome p0 <| fun a15 =>
 T.stores ((a15.add 2).add 3) [.int .i32 (IntKind.wrap .i32 n13)] <|
 T.ret (vI n14))
 (T.sem Tryz.prog (Instr.typeAssert v1 20 257 true) true [(true,[.bool]),(false,[.bool])] <| fun b10 b11 =>
 cond b11
 (T.new [.bool false] 257 <| fun a12 =>
 T.stores a12 [.bool b10] <|
 T.loads a12 [.bool] <| fun b13 =>
 cond b13
 (cond ((ll20:Int)==(0:Int))
 (T.ret (vI 20))
 (T.need (((0:Int)≤(0:Int))∧((0:Int)<(ll20:Int))) <|
 T.osome pp20 <| fun a14 =>
 T.loads a14 [.int .i64] <| fun n15 =>
 cond (n15 != (3:Int))
 (T.ret (vI 20))
 (T.need (((0:Int)≤(0:Int))∧((0:Int)<(ll20:Int))) <|
 T.osome pp20 <| fun a16 =>
 T.loads (a16.add 1) [.string] <| fun s17 =>
 cond (!((ByteArray.toList s17)==[({ toBitVec:=61#8 })]))
 (T.ret (vI 20))
 (T.need (((0:Int)≤(1:Int))∧(((1:Int)≤(ll20:Int))∧((ll20:Int)≤(cc20:Int)))) <|
 T.call Tryz.prog 130 [.slice (if (cc20=1) then pp20 else (Option.map (fun a=>Addr.add a 4) pp20)) ((Int.toNat (ll20:Int))-1) (cc20-1)] true [(true,[.slice 109,.int .u32]),(false,[.int .i64])] <| fun p18 l19 l20 n21 n22 =>
 T.osome p0 <| fun a23 =>
 T.stores (a23.add 7) [.slice p18 l19 l20,.int .u32 n21] <|
 T.ret (vI n22)))))
 (T.call Tryz.prog 130 [.slice pp20 ll20 cc20] true [(true,[.slice 109,.int .u32]),(false,[.int .i64])] <| fun p14 l15 l16 n17 n18 =>
 T.osome p0 <| fun a19 =>
 T.stores (a19.add 7) [.slice p14 l15 l16,.int .u32 n17] <|
 T.ret (vI n18)))
 (T.ret (vI 0))))
theorem t_item_argument_eq (p0:Option Addr) (v1:Value) (pp20:Option Addr) (ll20 cc20:Nat):xfun Tryz.prog [] Tryz.f125 [.pointer p0,v1,.slice pp20 ll20 cc20]=t_item_argument p0 v1 pp20 ll20 cc20:=by kernel_rfl
def t_item_counts (s0:ByteArray):T :=
 cond ((ByteArray.toList s0)==[({ toBitVec:=112#8 }),({ toBitVec:=111#8 }),({ toBitVec:=111#8 }),({ toBitVec:=108#8 })])
 (T.ret (.tuple #[vI 0,.bool true]))
 (cond ((ByteArray.toList s0)==[({ toBitVec:=97#8 }),({ toBitVec:=108#8 }),({ toBitVec:=105#8 }),({ toBitVec:=103#8 }),({ toBitVec:=110#8 })])
 (cond ((ByteArray.toList s0)==[({ toBitVec:=97#8 }),({ toBitVec:=108#8 }),({ toBitVec:=105#8 }),({ toBitVec:=103#8 }),({ toBitVec:=110#8 })])
 (T.ret (.tuple #[vI 1,.bool true]))
 (cond ((ByteArray.toList s0)==[({ toBitVec:=101#8 }),({ toBitVec:=113#8 }),({ toBitVec:=117#8 })])
 (T.ret (.tuple #[vI 2,.bool true]))
 (cond ((ByteArray.toList s0)==[({ toBitVec:=98#8 }),({ toBitVec:=121#8 }),({ toBitVec:=116#8 }),({ toBitVec:=101#8 })])
 (cond ((ByteArray.toList s0)==[({ toBitVec:=98#8 }),({ toBitVec:=121#8 }),({ toBitVec:=116#8 }),({ toBitVec:=101#8 })])
 (T.ret (.tuple #[vI (-1:Int),.bool true]))
 (T.ret (.tuple #[vI 0,.bool false])))
 (cond ((ByteArray.toList s0)==[({ toBitVec:=119#8 }),({ toBitVec:=111#8 }),({ toBitVec:=114#8 }),({ toBitVec:=100#8 })])
 (T.ret (.tuple #[vI (-1:Int),.bool true]))
 (T.ret (.tuple #[vI 0,.bool false]))))))
 (cond ((ByteArray.toList s0)==[({ toBitVec:=115#8 }),({ toBitVec:=112#8 }),({ toBitVec:=97#8 }),({ toBitVec:=99#8 }),({ toBitVec:=101#8 })])
 (cond ((ByteArray.toList s0)==[({ toBitVec:=115#8 }),({ toBitVec:=112#8 }),({ toBitVec:=97#8 }),({ toBitVec:=99#8 }),({ toBitVec:=101#8 })])
 (T.ret (.tuple #[vI 1,.bool true]))
 (cond ((ByteArray.toList s0)==[({ toBitVec:=101#8 }),({ toBitVec:=113#8 }),({ toBitVec:=117#8 })])
 (T.ret (.tuple #[vI 2,.bool true]))
 (cond ((ByteArray.toList s0)==[({ toBitVec:=98#8 }),({ toBitVec:=121#8 }),({ toBitVec:=116#8 }),({ toBitVec:=101#8 })])
 (cond ((ByteArray.toList s0)==[({ toBitVec:=98#8 }),({ toBitVec:=121#8 }),({ toBitVec:=116#8 }),({ toBitVec:=101#8 })])
 (T.ret (.tuple #[vI (-1:Int),.bool true]))
 (T.ret (.tuple #[vI 0,.bool false])))
 (cond ((ByteArray.toList s0)==[({ toBitVec:=119#8 }),({ toBitVec:=111#8 }),({ toBitVec:=114#8 }),({ toBitVec:=100#8 })])
 (T.ret (.tuple #[vI (-1:Int),.bool true]))
 (T.ret (.tuple #[vI 0,.bool false]))))))
 (cond ((ByteArray.toList s0)==[({ toBitVec:=103#8 }),({ toBitVec:=108#8 }),({ toBitVec:=111#8 }),({ toBitVec:=98#8 }),({ toBitVec:=97#8 }),({ toBitVec:=108#8 })])
 (cond ((ByteArray.toList s0)==[({ toBitVec:=103#8 }),({ toBitVec:=108#8 }),({ toBitVec:=111#8 }),({ toBitVec:=98#8 }),({ toBitVec:=97#8 }),({ toBitVec:=108#8 })])
 (T.ret (.tuple #[vI 1,.bool true]))
 (cond ((ByteArray.toList s0)==[({ toBitVec:=101#8 }),({ toBitVec:=113#8 }),({ toBitVec:=117#8 })])
 (T.ret (.tuple #[vI 2,.bool true]))
 (cond ((ByteArray.toList s0)==[({ toBitVec:=98#8 }),({ toBitVec:=121#8 }),({ toBitVec:=116#8 }),({ toBitVec:=101#8 })])
 (cond ((ByteArray.toList s0)==[({ toBitVec:=98#8 }),({ toBitVec:=121#8 }),({ toBitVec:=116#8 }),({ toBitVec:=101#8 })])
 (T.ret (.tuple #[vI (-1:Int),.bool true]))
 (T.ret (.tuple #[vI 0,.bool false])))
 (cond ((ByteArray.toList s0)==[({ toBitVec:=119#8 }),({ toBitVec:=111#8 }),({ toBitVec:=114#8 }),({ toBitVec:=100#8 })])
 (T.ret (.tuple #[vI (-1:Int),.bool true]))
 (T.ret (.tuple #[vI 0,.bool false]))))))
 (cond ((ByteArray.toList s0)==[({ toBitVec:=115#8 }),({ toBitVec:=101#8 }),({ toBitVec:=99#8 }),({ toBitVec:=116#8 }),({ toBitVec:=105#8 }),({ toBitVec:=111#8 }),({ toBitVec:=110#8 })])
 (T.ret (.tuple #[vI 1,.bool true]))
 (cond ((ByteArray.toList s0)==[({ toBitVec:=101#8 }),({ toBitVec:=113#8 }),({ toBitVec:=117#8 })])
 (T.ret (.tuple #[vI 2,.bool true]))
 (cond ((ByteArray.toList s0)==[({ toBitVec:=98#8 }),({ toBitVec:=121#8 }),({ toBitVec:=116#8 }),({ toBitVec:=101#8 })])
 (cond ((ByteArray.toList s0)==[({ toBitVec:=98#8 }),({ toBitVec:=121#8 }),({ toBitVec:=116#8 }),({ toBitVec:=101#8 })])
 (T.ret (.tuple #[vI (-1:Int),.bool true]))
 (T.ret (.tuple #[vI 0,.bool false])))
 (cond ((ByteArray.toList s0)==[({ toBitVec:=119#8 }),({ toBitVec:=111#8 }),({ toBitVec:=114#8 }),({ toBitVec:=100#8 })])
 (T.ret (.tuple #[vI (-1:Int),.bool true]))
 (T.ret (.tuple #[vI 0,.bool false])))))))))
theorem t_item_counts_eq (s0:ByteArray):xfun Tryz.prog [] Tryz.f126 [.string s0]=t_item_counts s0:=by kernel_rfl
def t_item_items (n0:Int) (pp10:Option Addr) (ll10 cc10:Nat):T :=
 cond ((ll10:Int)==(0:Int))
 (T.ret (.tuple #[.slice none 0 0,vI 20]))
 (T.loop [(false,[.slice 0]),(false,[.int .i64]),(false,[.slice 0]),(false,[.int .i64])] [.slice none 0 0,vI 0,.slice none 0 0,vI 0] <| fun p2 l3 l4 n5 p6 l7 l8 n9 =>
 cond (decide (n9<(ll10:Int)))
 (T.need (((0:Int)≤n9)∧(n9<(ll10:Int))) <|
 T.osome pp10 <| fun a10 =>
 T.loads (a10.add ((Int.toNat n9)*1)) [.slice 178] <| fun p11 l12 l13 =>
 T.new [vI 0,.string ⟨#[]⟩,vI 0,vI 0,vI 0,.int .i32 0,vI 0,.slice none 0 0,.int .u32 0,vI 0] 96 <| fun a14 =>
 T.stores a14 [vI n0,.string ⟨#[]⟩,vI 0,vI 0,vI 0,.int .i32 0,vI 0,.slice none 0 0,.int .u32 0,vI 0] <|
 cond (n0==(5:Int))
 (T.call Tryz.prog 127 [.slice p11 l12 l13,vI (-128:Int),vI 255] true [(false,[.int .i64]),(false,[.int .i64])] <| fun n15 n16 =>
 T.stores (a14.add 9) [vI n15] <|
 cond (n16 != (0:Int))
 (T.ret (.tuple #[.slice none 0 0,vI n16]))
 (T.loads a14 yI <| fun n17 s18 n19 n20 n21 n22 n23 p24 l25 l26 n27 n28 =>
 T.sem Tryz.prog (Instr.buildSlice 23 1 #[(0,.agg #[vI n17,.string s18,vI n19,vI n20,vI n21,.int .i32 n22,vI n23,.slice p24 l25 l26,.int .u32 n27,vI n28])]) false [(false,[.slice 0])] <| fun p29 l30 l31 =>
 T.sem Tryz.prog (Builtin.append_ #[23,23] 23 #[.slice p6 l7 l8,.slice p29 l30 l31]) false [(false,[.slice 0])] <| fun p32 l33 l34 =>
 T.again 0 [.slice p2 l3 l4,vI n5,.slice p32 l33 l34,vI (IntKind.wrap .i64 (n9+(1:Int)))]))
 (T.call Tryz.prog 130 [.slice p11 l12 l13] true [(true,[.slice 109,.int .u32]),(false,[.int .i64])] <| fun p15 l16 l17 n18 n19 =>
 T.stores (a14.add 7) [.slice p15 l16 l17,.int .u32 n18] <|
 cond (n19 != (0:Int))
 (T.ret (.tuple #[.slice none 0 0,vI n19]))
 (T.loads a14 yI <| fun n20 s21 n22 n23 n24 n25 n26 p27 l28 l29 n30 n31 =>
 T.sem Tryz.prog (Instr.buildSlice 23 1 #[(0,.agg #[vI n20,.string s21,vI n22,vI n23,vI n24,.int .i32 n25,vI n26,.slice p27 l28 l29,.int .u32 n30,vI n31])]) false [(false,[.slice 0])] <| fun p32 l33 l34 =>
 T.sem Tryz.prog (Builtin.append_ #[23,23] 23 #[.slice p6 l7 l8,.slice p32 l33 l34]) false [(false,[.slice 0])] <| fun p35 l36 l37 =>
 T.again 0 [.slice p2 l3 l4,vI n5,.slice p35 l36 l37,vI (IntKind.wrap .i64 (n9+(1:Int)))])))
 (T.ret (.tuple #[.slice p6 l7 l8,vI 0])))
theorem t_item_items_eq (n0:Int) (pp10:Option Addr) (ll10 cc10:Nat):xfun Tryz.prog [] Tryz.f128 [vI n0,.slice pp10 ll10 cc10]=t_item_items n0 pp10 ll10 cc10:=by kernel_rfl
def t_isa_Find (s0:ByteArray):T :=
 T.loads ⟨1,0,none⟩ [.string,.int .u8,.int .i64,.string,.int .u8,.int .i64,.string,.int .u8,.int .i64,.string,.int .u8,.int .i64,.string,.int .u8,.int .i64,.string,.int .u8,.int .i64,.string,.int .u8,.int .i64,.string,.int .u8,.int .i64,.string,.int .u8,.int .i64,.string,.int .u8,.int .i64,.string,.int .u8,.int .i64,.string,.int .u8,.int .i64,.string,.int .u8,.int .i64,.string,.int .u8,.int .i64,.string,.int .u8,.int .i64,.string,.int .u8,.int .i64,.string,.int .u8,.int .i64,.string,.int .u8,.int .i64,.string,.int .u8,.int .i64,.string,.int .u8,.int .i64,.string,.int .u8,.int .i64,.string,.int .u8,.int .i64,.string,.int .u8,.int .i64,.string,.int .u8,.int .i64,.string,.int .u8,.int .i64,.string,.int .u8,.int .i64,.string,.int .u8,.int .i64,.string,.int .u8,.int .i64,.string,.int .u8,.int .i64,.string,.int .u8,.int .i64,.string,.int .u8,.int .i64,.string,.int .u8,.int .i64,.string,.int .u8,.int .i64,.string,.int .u8,.int .i64,.string,.int .u8,.int .i64,.string,.int .u8,.int .i64,.string,.int .u8,.int .i64,.string,.int .u8,.int .i64,.string,.int .u8,.int .i64,.string,.int .u8,.int .i64,.string,.int .u8,.int .i64,.string,.int .u8,.int .i64,.string,.int .u8,.int .i64] <| fun s1 n2 n3 s4 n5 n6 s7 n8 n9 s10 n11 n12 s13 n14 n15 s16 n17 n18 s19 n20 n21 s22 n23 n24 s25 n26 n27 s28 n29 n30 s31 n32 n33 s34 n35 n36 s37 n38 n39 s40 n41 n42 s43 n44 n45 s46 n47 n48 s49 n50 n51 s52 n53 n54 s55 n56 n57 s58 n59 n60 s61 n62 n63 s64 n65 n66 s67 n68 n69 s70 n71 n72 s73 n74 n75 s76 n77 n78 s79 n80 n81 s82 n83 n84 s85 n86 n87 s88 n89 n90 s91 n92 n93 s94 n95 n96 s97 n98 n99 s100 n101 n102 s103 n104 n105 s106 n107 n108 s109 n110 n111 s112 n113 n114 s115 n116 n117 s118 n119 n120 s121 n122 n123 s124 n125 n126 s127 n128 n129 =>
 T.loop [(false,[.int .i64]),(false,[.bool]),(false,[.int .i64])] [vI 0,.bool false,vI 0] <| fun n130 b131 n132 =>
 cond (decide (n132<(43:Int)))
 (T.sem Tryz.prog (Instr.index 215 (.agg #[.string s1,.int .u8 n2,vI n3,.string s4,.int .u8 n5,vI n6,.string s7,.int .u8 n8,vI n9,.string s10,.int .u8 n11,vI n12,.string s13,.int .u8 n14,vI n15,.string s16,.int .u8 n17,vI n18,.string s19,.int .u8 n20,vI n21,.string s22,.int .u8 n23,vI n24,.string s25,.int .u8 n26,vI n27,.string s28,.int .u8 n29,vI n30,.string s31,.int .u8 n32,vI n33,.string s34,.int .u8 n35,vI n36,.string s37,.int .u8 n38,vI n39,.string s40,.int .u8 n41,vI n42,.string s43,.int .u8 n44,vI n45,.string s46,.int .u8 n47,vI n48,.string s49,.int .u8 n50,vI n51,.string s52,.int .u8 n53,vI n54,.string s55,.int .u8 n56,vI n57,.string s58,.int .u8 n59,vI n60,.string s61,.int .u8 n62,vI n63,.string s64,.int .u8 n65,vI n66,.string s67,.int .u8 n68,vI n69,.string s70,.int .u8 n71,vI n72,.string s73,.int .u8 n74,vI n75,.string s76,.int .u8 n77,vI n78,.string s79,.int .u8 n80,vI n81,.string s82,.int .u8 n83,vI n84,.string s85,.int .u8 n86,vI n87,.string s88,.int .u8 n89,vI n90,.string s91,.int .u8 n92,vI n93,.string s94,.int .u8 n95,vI n96,.string s97,.int .u8 n98,vI n99,.string s100,.int .u8 n101,vI n102,.string s103,.int .u8 n104,vI n105,.string s106,.int .u8 n107,vI n108,.string s109,.int .u8 n110,vI n111,.string s112,.int .u8 n113,vI n114,.string s115,.int .u8 n116,vI n117,.string s118,.int .u8 n119,vI n120,.string s121,.int .u8 n122,vI n123,.string s124,.int .u8 n125,vI n126,.string s127,.int .u8 n128,vI n129]) (vI n132)) false [(true,[.string,.int .u8,.int .i64])] <| fun s133 n134 n135 =>
 T.new [.string ⟨#[]⟩,.int .u8 0,vI 0] 158 <| fun a136 =>
 T.stores a136 [.string s133,.int .u8 n134,vI n135] <|
 T.loads a136 [.string] <| fun s137 =>
 cond ((ByteArray.toList s137)==(ByteArray.toList s0))
 (T.ret (.tuple #[vI (IntKind.wrap .i64 (n132+(1:Int))),.bool true]))
 (T.again 0 [vI n130,.bool b131,vI (IntKind.wrap .i64 (n132+(1:Int)))]))
 (T.ret (.tuple #[vI 0,.bool false]))
theorem t_isa_Find_eq (s0:ByteArray):xfun Tryz.prog [] Tryz.f98 [.string s0]=t_isa_Find s0:=by kernel_rfl
end Go.Sx
