/- Trees of functions, each checked by the kernel against the code. No condition. -/
import Derived.Test.YtgnhjkofpmchpaaGreatDoorSxF
import Derived.Test.YtgnhjkofpmchpaaGreatDoorProg
import Derived.KernelRfl
set_option linter.unusedVariables false
set_option linter.unusedSimpArgs false
set_option linter.deprecated false
set_option maxRecDepth 100000
namespace Go.Sx
open Go.Proofs
def t_isa_At (n0:Int):T :=
 T.new [.string ⟨#[]⟩,.int .u8 0,vI 0] 112 <| fun a1 =>
 cond (decide (n0<(1:Int)))
 (T.stores a1 [.string ⟨#[]⟩,.int .u8 0,vI 0] <|
 T.loads a1 [.string,.int .u8,.int .i64] <| fun s2 n3 n4 =>
 T.ret (.tuple #[.agg #[.string s2,.int .u8 n3,vI n4],.bool false]))
 (cond (decide (n0>(43:Int)))
 (T.stores a1 [.string ⟨#[]⟩,.int .u8 0,vI 0] <|
 T.loads a1 [.string,.int .u8,.int .i64] <| fun s2 n3 n4 =>
 T.ret (.tuple #[.agg #[.string s2,.int .u8 n3,vI n4],.bool false]))
 (T.need (((0:Int)≤(IntKind.wrap .i64 (n0-(1:Int))))∧((IntKind.wrap .i64 (n0-(1:Int)))<(43:Int))) <|
 T.loads ((⟨0,0,none⟩:Addr).add ((Int.toNat (IntKind.wrap .i64 (n0-(1:Int))))*3)) [.string,.int .u8,.int .i64] <| fun s2 n3 n4 =>
 T.stores a1 [.string s2,.int .u8 n3,vI n4] <|
 T.loads a1 [.string,.int .u8,.int .i64] <| fun s5 n6 n7 =>
 T.ret (.tuple #[.agg #[.string s5,.int .u8 n6,vI n7],.bool true])))
theorem t_isa_At_eq (n0:Int):xfun Tryz.prog [] Tryz.f56 [vI n0]=t_isa_At n0:=by kernel_rfl
def t_isa_Spans (n0:Int):T :=
 T.call Tryz.prog 56 [vI n0] true [(true,[.string,.int .u8,.int .i64]),(false,[.bool])] <| fun s1 n2 n3 b4 =>
 T.new [.string ⟨#[]⟩,.int .u8 0,vI 0] 112 <| fun a5 =>
 T.stores a5 [.string s1,.int .u8 n2,vI n3] <|
 T.loads (a5.add 2) [.int .i64] <| fun n6 =>
 cond (n6==(12:Int))
 (T.ret (.bool true))
 (T.loads (a5.add 2) [.int .i64] <| fun n7 =>
 T.ret (.bool (n7==(13:Int))))
theorem t_isa_Spans_eq (n0:Int):xfun Tryz.prog [] Tryz.f93 [vI n0]=t_isa_Spans n0:=by kernel_rfl
def t_isa_below (n0:Int) (n1:Int):T :=
 cond (decide (n0≥(0:Int)))
 (T.ret (.bool (decide (n0<n1))))
 (T.ret (.bool false))
theorem t_isa_below_eq (n0:Int) (n1:Int):xfun Tryz.prog [] Tryz.f103 [vI n0,vI n1]=t_isa_below n0 n1:=by kernel_rfl
def t_isa_Reaches (n0:Int) (n1:Int):T :=
 cond (n1==(1:Int))
 (T.ret (.bool (n0==(IntKind.wrap .i32 (IntKind.wrap .i8 n0)))))
 (cond (n1==(2:Int))
 (T.ret (.bool (n0==(IntKind.wrap .i32 (IntKind.wrap .i16 n0)))))
 (T.ret (.bool (n1==(4:Int)))))
theorem t_isa_Reaches_eq (n0:Int) (n1:Int):xfun Tryz.prog [] Tryz.f104 [.int .i32 n0,vI n1]=t_isa_Reaches n0 n1:=by kernel_rfl
def t_isa_Check (n0:Int) (n1_0:Int) (n2_0:Int) (n3_0:Int) (n4_0:Int):T :=
 T.new [vI n0,vI n1_0,vI n2_0,.int .i32 n3_0,vI n4_0] 52 <| fun a1 =>
 T.loads a1 [.int .i64] <| fun n2 =>
 T.call Tryz.prog 56 [vI n2] true [(true,[.string,.int .u8,.int .i64]),(false,[.bool])] <| fun s3 n4 n5 b6 =>
 T.new [.string ⟨#[]⟩,.int .u8 0,vI 0] 112 <| fun a7 =>
 T.stores a7 [.string s3,.int .u8 n4,vI n5] <|
 cond (!b6)
 (T.ret (vI 11))
 (T.loads a1 [.int .i64,.int .i64,.int .i64,.int .i32,.int .i64] <| fun n8 n9 n10 n11 n12 =>
 T.loads (a7.add 2) [.int .i64] <| fun n13 =>
 T.call Tryz.prog 92 [.agg #[vI n8,vI n9,vI n10,.int .i32 n11,vI n12],vI n13] false [(false,[.bool])] <| fun b14 =>
 cond (!b14)
 (T.ret (vI 12))
 (T.loads a1 [.int .i64] <| fun n15 =>
 T.call Tryz.prog 93 [vI n15] false [(false,[.bool])] <| fun b16 =>
 cond (!b16)
 (T.loads (a1.add 4) [.int .i64] <| fun n17 =>
 cond (n17 != (0:Int))
 (T.ret (vI 13))
 (T.loads a1 [.int .i64,.int .i64,.int .i64,.int .i32,.int .i64] <| fun n18 n19 n20 n21 n22 =>
 T.loads (a7.add 2) [.int .i64] <| fun n23 =>
 T.call Tryz.prog 94 [.agg #[vI n18,vI n19,vI n20,.int .i32 n21,vI n22],vI n23] false [(false,[.bool])] <| fun b24 =>
 cond (!b24)
 (T.ret (vI 13))
 (T.ret (vI 0))))
 (T.loads a1 [.int .i64,.int .i64,.int .i64,.int .i32,.int .i64] <| fun n17 n18 n19 n20 n21 =>
 T.loads (a7.add 2) [.int .i64] <| fun n22 =>
 T.call Tryz.prog 94 [.agg #[vI n17,vI n18,vI n19,.int .i32 n20,vI n21],vI n22] false [(false,[.bool])] <| fun b23 =>
 cond (!b23)
 (T.ret (vI 13))
 (T.ret (vI 0)))))
theorem t_isa_Check_eq (n0:Int) (n1_0:Int) (n2_0:Int) (n3_0:Int) (n4_0:Int):xfun Tryz.prog [] Tryz.f64 [.agg #[vI n0,vI n1_0,vI n2_0,.int .i32 n3_0,vI n4_0]]=t_isa_Check n0 n1_0 n2_0 n3_0 n4_0:=by kernel_rfl
def t_item_power (n0:Int):T :=
 cond (decide (n0≥(1:Int)))
 (cond (decide (n0≤(256:Int)))
 (T.ret (.bool ((IntKind.wrap .i64 (((BitVec.toNat ((BitVec.ofInt 64 n0) &&& (BitVec.ofInt 64 (IntKind.wrap .i64 (n0-(1:Int)))))):Nat):Int))==(0:Int))))
 (T.ret (.bool false)))
 (T.ret (.bool false))
theorem t_item_power_eq (n0:Int):xfun Tryz.prog [] Tryz.f36 [vI n0]=t_item_power n0:=by kernel_rfl
def t_item_instruction (n0:Int) (s1_0:ByteArray) (n2_0:Int) (n3_0:Int) (n4_0:Int) (n5_0:Int) (n6_0:Int) (pp07:Option Addr) (ll07 cc07:Nat) (n8_0:Int) (n9_0:Int):T :=
 T.new [vI n0,.string s1_0,vI n2_0,vI n3_0,vI n4_0,.int .i32 n5_0,vI n6_0,.slice pp07 ll07 cc07,.int .u32 n8_0,vI n9_0] 54 <| fun a1 =>
 T.loads (a1.add 2) [.int .i64] <| fun n2 =>
 T.call Tryz.prog 56 [vI n2] true [(true,[.string,.int .u8,.int .i64]),(false,[.bool])] <| fun s3 n4 n5 b6 =>
 T.new [.string ⟨#[]⟩,.int .u8 0,vI 0] 112 <| fun a7 =>
 T.stores a7 [.string s3,.int .u8 n4,vI n5] <|
 cond (!b6)
 (T.ret (.bool false))
 (T.loads ((a1.add 2).add 4) [.int .i64] <| fun n8 =>
 cond (n8 != (0:Int))
 (T.ret (.bool false))
 (T.loads (a1.add 2) [.int .i64,.int .i64,.int .i64,.int .i32,.int .i64] <| fun n9 n10 n11 n12 n13 =>
 T.new [vI 0,vI 0,vI 0,.int .i32 0,vI 0] 52 <| fun a14 =>
 T.stores a14 [vI n9,vI n10,vI n11,.int .i32 n12,vI n13] <|
 T.loads (a7.add 2) [.int .i64] <| fun n15 =>
 cond (n15==(12:Int))
 (cond (n15==(12:Int))
 (T.stores (a14.add 4) [vI 1] <|
 T.loads ((a1.add 2).add 3) [.int .i32] <| fun n16 =>
 cond (n16==(0:Int))
 (T.loads a14 [.int .i64,.int .i64,.int .i64,.int .i32,.int .i64] <| fun n17 n18 n19 n20 n21 =>
 T.call Tryz.prog 64 [.agg #[vI n17,vI n18,vI n19,.int .i32 n20,vI n21]] false [(false,[.int .i64])] <| fun n22 =>
 cond (n22==(0:Int))
 (T.loads (a1.add 7) [.slice 50,.int .u32] <| fun p23 l24 l25 n26 =>
 T.call Tryz.prog 37 [.agg #[.slice p23 l24 l25,.int .u32 n26]] false [(false,[.bool])] <| fun b27 =>
 T.ret (.bool b27))
 (T.ret (.bool false)))
 (T.ret (.bool false)))
 (cond (n15==(10:Int))
 (cond (n15==(10:Int))
 (T.loads ((a1.add 2).add 3) [.int .i32] <| fun n16 =>
 cond (n16==(0:Int))
 (T.loads a14 [.int .i64,.int .i64,.int .i64,.int .i32,.int .i64] <| fun n17 n18 n19 n20 n21 =>
 T.call Tryz.prog 64 [.agg #[vI n17,vI n18,vI n19,.int .i32 n20,vI n21]] false [(false,[.int .i64])] <| fun n22 =>
 cond (n22==(0:Int))
 (T.loads (a1.add 7) [.slice 50,.int .u32] <| fun p23 l24 l25 n26 =>
 T.call Tryz.prog 37 [.agg #[.slice p23 l24 l25,.int .u32 n26]] false [(false,[.bool])] <| fun b27 =>
 T.ret (.bool b27))
 (T.ret (.bool false)))
 (T.ret (.bool false)))
 (T.loads a14 [.int .i64,.int .i64,.int .i64,.int .i32,.int .i64] <| fun n16 n17 n18 n19 n20 =>
 T.call Tryz.prog 64 [.agg #[vI n16,vI n17,vI n18,.int .i32 n19,vI n20]] false [(false,[.int .i64])] <| fun n21 =>
 cond (n21==(0:Int))
 (T.loads (a1.add 7) [.slice 50,.int .u32] <| fun p22 l23 l24 n25 =>
 T.call Tryz.prog 38 [.agg #[.slice p22 l23 l24,.int .u32 n25],.agg #[.slice none 0 0,.int .u32 0]] false [(false,[.bool])] <| fun b26 =>
 T.ret (.bool b26))
 (T.ret (.bool false))))
 (cond (n15==(11:Int))
 (T.loads ((a1.add 2).add 3) [.int .i32] <| fun n16 =>
 cond (n16==(0:Int))
 (T.loads a14 [.int .i64,.int .i64,.int .i64,.int .i32,.int .i64] <| fun n17 n18 n19 n20 n21 =>
 T.call Tryz.prog 64 [.agg #[vI n17,vI n18,vI n19,.int .i32 n20,vI n21]] false [(false,[.int .i64])] <| fun n22 =>
 cond (n22==(0:Int))
 (T.loads (a1.add 7) [.slice 50,.int .u32] <| fun p23 l24 l25 n26 =>
 T.call Tryz.prog 37 [.agg #[.slice p23 l24 l25,.int .u32 n26]] false [(false,[.bool])] <| fun b27 =>
 T.ret (.bool b27))
 (T.ret (.bool false)))
 (T.ret (.bool false)))
 (T.loads a14 [.int .i64,.int .i64,.int .i64,.int .i32,.int .i64] <| fun n16 n17 n18 n19 n20 =>
 T.call Tryz.prog 64 [.agg #[vI n16,vI n17,vI n18,.int .i32 n19,vI n20]] false [(false,[.int .i64])] <| fun n21 =>
 cond (n21==(0:Int))
 (T.loads (a1.add 7) [.slice 50,.int .u32] <| fun p22 l23 l24 n25 =>
 T.call Tryz.prog 38 [.agg #[.slice p22 l23 l24,.int .u32 n25],.agg #[.slice none 0 0,.int .u32 0]] false [(false,[.bool])] <| fun b26 =>
 T.ret (.bool b26))
 (T.ret (.bool false))))))
 (cond (n15==(13:Int))
 (T.stores (a14.add 4) [vI 1] <|
 T.loads ((a1.add 2).add 3) [.int .i32] <| fun n16 =>
 cond (n16==(0:Int))
 (T.loads a14 [.int .i64,.int .i64,.int .i64,.int .i32,.int .i64] <| fun n17 n18 n19 n20 n21 =>
 T.call Tryz.prog 64 [.agg #[vI n17,vI n18,vI n19,.int .i32 n20,vI n21]] false [(false,[.int .i64])] <| fun n22 =>
 cond (n22==(0:Int))
 (T.loads (a1.add 7) [.slice 50,.int .u32] <| fun p23 l24 l25 n26 =>
 T.call Tryz.prog 37 [.agg #[.slice p23 l24 l25,.int .u32 n26]] false [(false,[.bool])] <| fun b27 =>
 T.ret (.bool b27))
 (T.ret (.bool false)))
 (T.ret (.bool false)))
 (cond (n15==(10:Int))
 (cond (n15==(10:Int))
 (T.loads ((a1.add 2).add 3) [.int .i32] <| fun n16 =>
 cond (n16==(0:Int))
 (T.loads a14 [.int .i64,.int .i64,.int .i64,.int .i32,.int .i64] <| fun n17 n18 n19 n20 n21 =>
 T.call Tryz.prog 64 [.agg #[vI n17,vI n18,vI n19,.int .i32 n20,vI n21]] false [(false,[.int .i64])] <| fun n22 =>
 cond (n22==(0:Int))
 (T.loads (a1.add 7) [.slice 50,.int .u32] <| fun p23 l24 l25 n26 =>
 T.call Tryz.prog 37 [.agg #[.slice p23 l24 l25,.int .u32 n26]] false [(false,[.bool])] <| fun b27 =>
 T.ret (.bool b27))
 (T.ret (.bool false)))
 (T.ret (.bool false)))
 (T.loads a14 [.int .i64,.int .i64,.int .i64,.int .i32,.int .i64] <| fun n16 n17 n18 n19 n20 =>
 T.call Tryz.prog 64 [.agg #[vI n16,vI n17,vI n18,.int .i32 n19,vI n20]] false [(false,[.int .i64])] <| fun n21 =>
 cond (n21==(0:Int))
 (T.loads (a1.add 7) [.slice 50,.int .u32] <| fun p22 l23 l24 n25 =>
 T.call Tryz.prog 38 [.agg #[.slice p22 l23 l24,.int .u32 n25],.agg #[.slice none 0 0,.int .u32 0]] false [(false,[.bool])] <| fun b26 =>
 T.ret (.bool b26))
 (T.ret (.bool false))))
 (cond (n15==(11:Int))
 (T.loads ((a1.add 2).add 3) [.int .i32] <| fun n16 =>
 cond (n16==(0:Int))
 (T.loads a14 [.int .i64,.int .i64,.int .i64,.int .i32,.int .i64] <| fun n17 n18 n19 n20 n21 =>
 T.call Tryz.prog 64 [.agg #[vI n17,vI n18,vI n19,.int .i32 n20,vI n21]] false [(false,[.int .i64])] <| fun n22 =>
 cond (n22==(0:Int))
 (T.loads (a1.add 7) [.slice 50,.int .u32] <| fun p23 l24 l25 n26 =>
 T.call Tryz.prog 37 [.agg #[.slice p23 l24 l25,.int .u32 n26]] false [(false,[.bool])] <| fun b27 =>
 T.ret (.bool b27))
 (T.ret (.bool false)))
 (T.ret (.bool false)))
 (T.loads a14 [.int .i64,.int .i64,.int .i64,.int .i32,.int .i64] <| fun n16 n17 n18 n19 n20 =>
 T.call Tryz.prog 64 [.agg #[vI n16,vI n17,vI n18,.int .i32 n19,vI n20]] false [(false,[.int .i64])] <| fun n21 =>
 cond (n21==(0:Int))
 (T.loads (a1.add 7) [.slice 50,.int .u32] <| fun p22 l23 l24 n25 =>
 T.call Tryz.prog 38 [.agg #[.slice p22 l23 l24,.int .u32 n25],.agg #[.slice none 0 0,.int .u32 0]] false [(false,[.bool])] <| fun b26 =>
 T.ret (.bool b26))
 (T.ret (.bool false))))))))
theorem t_item_instruction_eq (n0:Int) (s1_0:ByteArray) (n2_0:Int) (n3_0:Int) (n4_0:Int) (n5_0:Int) (n6_0:Int) (pp07:Option Addr) (ll07 cc07:Nat) (n8_0:Int) (n9_0:Int):xfun Tryz.prog [] Tryz.f35 [.agg #[vI n0,.string s1_0,vI n2_0,vI n3_0,vI n4_0,.int .i32 n5_0,vI n6_0,.slice pp07 ll07 cc07,.int .u32 n8_0,vI n9_0]]=t_item_instruction n0 s1_0 n2_0 n3_0 n4_0 n5_0 n6_0 pp07 ll07 cc07 n8_0 n9_0:=by kernel_rfl
end Go.Sx
