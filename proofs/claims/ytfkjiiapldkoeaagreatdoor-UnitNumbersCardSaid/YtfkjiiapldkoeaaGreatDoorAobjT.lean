/- Trees of functions, each checked by the kernel against the code. No condition. -/
import Derived.Test.YtfkjiiapldkoeaaGreatDoorSxF
import Derived.Test.YtfkjiiapldkoeaaGreatDoorProg
import Derived.KernelRfl
set_option linter.unusedVariables false
set_option linter.unusedSimpArgs false
set_option linter.deprecated false
set_option maxRecDepth 100000
namespace Go.Sx
open Go.Proofs
def t_isa_At (n0:Int):T :=
 T.new [.string ⟨#[]⟩,.int .u8 0,vI 0] 158 <| fun a1 =>
 cond (decide (n0<(1:Int)))
 (T.stores a1 [.string ⟨#[]⟩,.int .u8 0,vI 0] <|
 T.loads a1 [.string,.int .u8,.int .i64] <| fun s2 n3 n4 =>
 T.ret (.tuple #[.agg #[.string s2,.int .u8 n3,vI n4],.bool false]))
 (cond (decide (n0>(43:Int)))
 (T.stores a1 [.string ⟨#[]⟩,.int .u8 0,vI 0] <|
 T.loads a1 [.string,.int .u8,.int .i64] <| fun s2 n3 n4 =>
 T.ret (.tuple #[.agg #[.string s2,.int .u8 n3,vI n4],.bool false]))
 (T.need (((0:Int)≤(IntKind.wrap .i64 (n0-(1:Int))))∧((IntKind.wrap .i64 (n0-(1:Int)))<(43:Int))) <|
 T.loads ((⟨1,0,none⟩:Addr).add ((Int.toNat (IntKind.wrap .i64 (n0-(1:Int))))*3)) [.string,.int .u8,.int .i64] <| fun s2 n3 n4 =>
 T.stores a1 [.string s2,.int .u8 n3,vI n4] <|
 T.loads a1 [.string,.int .u8,.int .i64] <| fun s5 n6 n7 =>
 T.ret (.tuple #[.agg #[.string s5,.int .u8 n6,vI n7],.bool true])))
theorem t_isa_At_eq (n0:Int):xfun Tryz.prog [] Tryz.f90 [vI n0]=t_isa_At n0:=by kernel_rfl
def t_isa_Spans (n0:Int):T :=
 T.call Tryz.prog 90 [vI n0] true [(true,[.string,.int .u8,.int .i64]),(false,[.bool])] <| fun s1 n2 n3 b4 =>
 T.new [.string ⟨#[]⟩,.int .u8 0,vI 0] 158 <| fun a5 =>
 T.stores a5 [.string s1,.int .u8 n2,vI n3] <|
 T.loads (a5.add 2) [.int .i64] <| fun n6 =>
 cond (n6==(12:Int))
 (T.ret (.bool true))
 (T.loads (a5.add 2) [.int .i64] <| fun n7 =>
 T.ret (.bool (n7==(13:Int))))
theorem t_isa_Spans_eq (n0:Int):xfun Tryz.prog [] Tryz.f51 [vI n0]=t_isa_Spans n0:=by kernel_rfl
def t_isa_below (n0:Int) (n1:Int):T :=
 cond (decide (n0≥(0:Int)))
 (T.ret (.bool (decide (n0<n1))))
 (T.ret (.bool false))
theorem t_isa_below_eq (n0:Int) (n1:Int):xfun Tryz.prog [] Tryz.f172 [vI n0,vI n1]=t_isa_below n0 n1:=by kernel_rfl
def t_isa_Reaches (n0:Int) (n1:Int):T :=
 cond (n1==(1:Int))
 (T.ret (.bool (n0==(IntKind.wrap .i32 (IntKind.wrap .i8 n0)))))
 (cond (n1==(2:Int))
 (T.ret (.bool (n0==(IntKind.wrap .i32 (IntKind.wrap .i16 n0)))))
 (T.ret (.bool (n1==(4:Int)))))
theorem t_isa_Reaches_eq (n0:Int) (n1:Int):xfun Tryz.prog [] Tryz.f173 [.int .i32 n0,vI n1]=t_isa_Reaches n0 n1:=by kernel_rfl
def t_isa_Check (n0:Int) (n1_0:Int) (n2_0:Int) (n3_0:Int) (n4_0:Int):T :=
 T.new [vI n0,vI n1_0,vI n2_0,.int .i32 n3_0,vI n4_0] 90 <| fun a1 =>
 T.loads a1 [.int .i64] <| fun n2 =>
 T.call Tryz.prog 90 [vI n2] true [(true,[.string,.int .u8,.int .i64]),(false,[.bool])] <| fun s3 n4 n5 b6 =>
 T.new [.string ⟨#[]⟩,.int .u8 0,vI 0] 158 <| fun a7 =>
 T.stores a7 [.string s3,.int .u8 n4,vI n5] <|
 cond (!b6)
 (T.ret (vI 11))
 (T.loads a1 [.int .i64,.int .i64,.int .i64,.int .i32,.int .i64] <| fun n8 n9 n10 n11 n12 =>
 T.loads (a7.add 2) [.int .i64] <| fun n13 =>
 T.call Tryz.prog 143 [.agg #[vI n8,vI n9,vI n10,.int .i32 n11,vI n12],vI n13] false [(false,[.bool])] <| fun b14 =>
 cond (!b14)
 (T.ret (vI 12))
 (T.loads a1 [.int .i64] <| fun n15 =>
 T.call Tryz.prog 51 [vI n15] false [(false,[.bool])] <| fun b16 =>
 cond (!b16)
 (T.loads (a1.add 4) [.int .i64] <| fun n17 =>
 cond (n17 != (0:Int))
 (T.ret (vI 13))
 (T.loads a1 [.int .i64,.int .i64,.int .i64,.int .i32,.int .i64] <| fun n18 n19 n20 n21 n22 =>
 T.loads (a7.add 2) [.int .i64] <| fun n23 =>
 T.call Tryz.prog 144 [.agg #[vI n18,vI n19,vI n20,.int .i32 n21,vI n22],vI n23] false [(false,[.bool])] <| fun b24 =>
 cond (!b24)
 (T.ret (vI 13))
 (T.ret (vI 0))))
 (T.loads a1 [.int .i64,.int .i64,.int .i64,.int .i32,.int .i64] <| fun n17 n18 n19 n20 n21 =>
 T.loads (a7.add 2) [.int .i64] <| fun n22 =>
 T.call Tryz.prog 144 [.agg #[vI n17,vI n18,vI n19,.int .i32 n20,vI n21],vI n22] false [(false,[.bool])] <| fun b23 =>
 cond (!b23)
 (T.ret (vI 13))
 (T.ret (vI 0)))))
theorem t_isa_Check_eq (n0:Int) (n1_0:Int) (n2_0:Int) (n3_0:Int) (n4_0:Int):xfun Tryz.prog [] Tryz.f116 [.agg #[vI n0,vI n1_0,vI n2_0,.int .i32 n3_0,vI n4_0]]=t_isa_Check n0 n1_0 n2_0 n3_0 n4_0:=by kernel_rfl
def t_item_power (n0:Int):T :=
 cond (decide (n0≥(1:Int)))
 (cond (decide (n0≤(256:Int)))
 (T.ret (.bool ((IntKind.wrap .i64 (((BitVec.toNat ((BitVec.ofInt 64 n0) &&& (BitVec.ofInt 64 (IntKind.wrap .i64 (n0-(1:Int)))))):Nat):Int))==(0:Int))))
 (T.ret (.bool false)))
 (T.ret (.bool false))
theorem t_item_power_eq (n0:Int):xfun Tryz.prog [] Tryz.f79 [vI n0]=t_item_power n0:=by kernel_rfl
def t_item_instruction (n0:Int) (s1_0:ByteArray) (n2_0:Int) (n3_0:Int) (n4_0:Int) (n5_0:Int) (n6_0:Int) (pp07:Option Addr) (ll07 cc07:Nat) (n8_0:Int) (n9_0:Int):T :=
 T.new [vI n0,.string s1_0,vI n2_0,vI n3_0,vI n4_0,.int .i32 n5_0,vI n6_0,.slice pp07 ll07 cc07,.int .u32 n8_0,vI n9_0] 96 <| fun a1 =>
 T.loads (a1.add 2) [.int .i64] <| fun n2 =>
 T.call Tryz.prog 90 [vI n2] true [(true,[.string,.int .u8,.int .i64]),(false,[.bool])] <| fun s3 n4 n5 b6 =>
 T.new [.string ⟨#[]⟩,.int .u8 0,vI 0] 158 <| fun a7 =>
 T.stores a7 [.string s3,.int .u8 n4,vI n5] <|
 cond (!b6)
 (T.ret (.bool false))
 (T.loads ((a1.add 2).add 4) [.int .i64] <| fun n8 =>
 cond (n8 != (0:Int))
 (T.ret (.bool false))
 (T.loads (a1.add 2) [.int .i64,.int .i64,.int .i64,.int .i32,.int .i64] <| fun n9 n10 n11 n12 n13 =>
 T.new [vI 0,vI 0,vI 0,.int .i32 0,vI 0] 90 <| fun a14 =>
 T.stores a14 [vI n9,vI n10,vI n11,.int .i32 n12,vI n13] <|
 T.loads (a7.add 2) [.int .i64] <| fun n15 =>
 cond (n15==(12:Int))
 (cond (n15==(12:Int))
 (T.stores (a14.add 4) [vI 1] <|
 T.loads ((a1.add 2).add 3) [.int .i32] <| fun n16 =>
 cond (n16==(0:Int))
 (T.loads a14 [.int .i64,.int .i64,.int .i64,.int .i32,.int .i64] <| fun n17 n18 n19 n20 n21 =>
 T.call Tryz.prog 116 [.agg #[vI n17,vI n18,vI n19,.int .i32 n20,vI n21]] false [(false,[.int .i64])] <| fun n22 =>
 cond (n22==(0:Int))
 (T.loads (a1.add 7) [.slice 109,.int .u32] <| fun p23 l24 l25 n26 =>
 T.call Tryz.prog 46 [.agg #[.slice p23 l24 l25,.int .u32 n26]] false [(false,[.bool])] <| fun b27 =>
 T.ret (.bool b27))
 (T.ret (.bool false)))
 (T.ret (.bool false)))
 (cond (n15==(10:Int))
 (cond (n15==(10:Int))
 (T.loads ((a1.add 2).add 3) [.int .i32] <| fun n16 =>
 cond (n16==(0:Int))
 (T.loads a14 [.int .i64,.int .i64,.int .i64,.int .i32,.int .i64] <| fun n17 n18 n19 n20 n21 =>
 T.call Tryz.prog 116 [.agg #[vI n17,vI n18,vI n19,.int .i32 n20,vI n21]] false [(false,[.int .i64])] <| fun n22 =>
 cond (n22==(0:Int))
 (T.loads (a1.add 7) [.slice 109,.int .u32] <| fun p23 l24 l25 n26 =>
 T.call Tryz.prog 46 [.agg #[.slice p23 l24 l25,.int .u32 n26]] false [(false,[.bool])] <| fun b27 =>
 T.ret (.bool b27))
 (T.ret (.bool false)))
 (T.ret (.bool false)))
 (T.loads a14 [.int .i64,.int .i64,.int .i64,.int .i32,.int .i64] <| fun n16 n17 n18 n19 n20 =>
 T.call Tryz.prog 116 [.agg #[vI n16,vI n17,vI n18,.int .i32 n19,vI n20]] false [(false,[.int .i64])] <| fun n21 =>
 cond (n21==(0:Int))
 (T.loads (a1.add 7) [.slice 109,.int .u32] <| fun p22 l23 l24 n25 =>
 T.call Tryz.prog 80 [.agg #[.slice p22 l23 l24,.int .u32 n25],.agg #[.slice none 0 0,.int .u32 0]] false [(false,[.bool])] <| fun b26 =>
 T.ret (.bool b26))
 (T.ret (.bool false))))
 (cond (n15==(11:Int))
 (T.loads ((a1.add 2).add 3) [.int .i32] <| fun n16 =>
 cond (n16==(0:Int))
 (T.loads a14 [.int .i64,.int .i64,.int .i64,.int .i32,.int .i64] <| fun n17 n18 n19 n20 n21 =>
 T.call Tryz.prog 116 [.agg #[vI n17,vI n18,vI n19,.int .i32 n20,vI n21]] false [(false,[.int .i64])] <| fun n22 =>
 cond (n22==(0:Int))
 (T.loads (a1.add 7) [.slice 109,.int .u32] <| fun p23 l24 l25 n26 =>
 T.call Tryz.prog 46 [.agg #[.slice p23 l24 l25,.int .u32 n26]] false [(false,[.bool])] <| fun b27 =>
 T.ret (.bool b27))
 (T.ret (.bool false)))
 (T.ret (.bool false)))
 (T.loads a14 [.int .i64,.int .i64,.int .i64,.int .i32,.int .i64] <| fun n16 n17 n18 n19 n20 =>
 T.call Tryz.prog 116 [.agg #[vI n16,vI n17,vI n18,.int .i32 n19,vI n20]] false [(false,[.int .i64])] <| fun n21 =>
 cond (n21==(0:Int))
 (T.loads (a1.add 7) [.slice 109,.int .u32] <| fun p22 l23 l24 n25 =>
 T.call Tryz.prog 80 [.agg #[.slice p22 l23 l24,.int .u32 n25],.agg #[.slice none 0 0,.int .u32 0]] false [(false,[.bool])] <| fun b26 =>
 T.ret (.bool b26))
 (T.ret (.bool false))))))
 (cond (n15==(13:Int))
 (T.stores (a14.add 4) [vI 1] <|
 T.loads ((a1.add 2).add 3) [.int .i32] <| fun n16 =>
 cond (n16==(0:Int))
 (T.loads a14 [.int .i64,.int .i64,.int .i64,.int .i32,.int .i64] <| fun n17 n18 n19 n20 n21 =>
 T.call Tryz.prog 116 [.agg #[vI n17,vI n18,vI n19,.int .i32 n20,vI n21]] false [(false,[.int .i64])] <| fun n22 =>
 cond (n22==(0:Int))
 (T.loads (a1.add 7) [.slice 109,.int .u32] <| fun p23 l24 l25 n26 =>
 T.call Tryz.prog 46 [.agg #[.slice p23 l24 l25,.int .u32 n26]] false [(false,[.bool])] <| fun b27 =>
 T.ret (.bool b27))
 (T.ret (.bool false)))
 (T.ret (.bool false)))
 (cond (n15==(10:Int))
 (cond (n15==(10:Int))
 (T.loads ((a1.add 2).add 3) [.int .i32] <| fun n16 =>
 cond (n16==(0:Int))
 (T.loads a14 [.int .i64,.int .i64,.int .i64,.int .i32,.int .i64] <| fun n17 n18 n19 n20 n21 =>
 T.call Tryz.prog 116 [.agg #[vI n17,vI n18,vI n19,.int .i32 n20,vI n21]] false [(false,[.int .i64])] <| fun n22 =>
 cond (n22==(0:Int))
 (T.loads (a1.add 7) [.slice 109,.int .u32] <| fun p23 l24 l25 n26 =>
 T.call Tryz.prog 46 [.agg #[.slice p23 l24 l25,.int .u32 n26]] false [(false,[.bool])] <| fun b27 =>
 T.ret (.bool b27))
 (T.ret (.bool false)))
 (T.ret (.bool false)))
 (T.loads a14 [.int .i64,.int .i64,.int .i64,.int .i32,.int .i64] <| fun n16 n17 n18 n19 n20 =>
 T.call Tryz.prog 116 [.agg #[vI n16,vI n17,vI n18,.int .i32 n19,vI n20]] false [(false,[.int .i64])] <| fun n21 =>
 cond (n21==(0:Int))
 (T.loads (a1.add 7) [.slice 109,.int .u32] <| fun p22 l23 l24 n25 =>
 T.call Tryz.prog 80 [.agg #[.slice p22 l23 l24,.int .u32 n25],.agg #[.slice none 0 0,.int .u32 0]] false [(false,[.bool])] <| fun b26 =>
 T.ret (.bool b26))
 (T.ret (.bool false))))
 (cond (n15==(11:Int))
 (T.loads ((a1.add 2).add 3) [.int .i32] <| fun n16 =>
 cond (n16==(0:Int))
 (T.loads a14 [.int .i64,.int .i64,.int .i64,.int .i32,.int .i64] <| fun n17 n18 n19 n20 n21 =>
 T.call Tryz.prog 116 [.agg #[vI n17,vI n18,vI n19,.int .i32 n20,vI n21]] false [(false,[.int .i64])] <| fun n22 =>
 cond (n22==(0:Int))
 (T.loads (a1.add 7) [.slice 109,.int .u32] <| fun p23 l24 l25 n26 =>
 T.call Tryz.prog 46 [.agg #[.slice p23 l24 l25,.int .u32 n26]] false [(false,[.bool])] <| fun b27 =>
 T.ret (.bool b27))
 (T.ret (.bool false)))
 (T.ret (.bool false)))
 (T.loads a14 [.int .i64,.int .i64,.int .i64,.int .i32,.int .i64] <| fun n16 n17 n18 n19 n20 =>
 T.call Tryz.prog 116 [.agg #[vI n16,vI n17,vI n18,.int .i32 n19,vI n20]] false [(false,[.int .i64])] <| fun n21 =>
 cond (n21==(0:Int))
 (T.loads (a1.add 7) [.slice 109,.int .u32] <| fun p22 l23 l24 n25 =>
 T.call Tryz.prog 80 [.agg #[.slice p22 l23 l24,.int .u32 n25],.agg #[.slice none 0 0,.int .u32 0]] false [(false,[.bool])] <| fun b26 =>
 T.ret (.bool b26))
 (T.ret (.bool false))))))))
theorem t_item_instruction_eq (n0:Int) (s1_0:ByteArray) (n2_0:Int) (n3_0:Int) (n4_0:Int) (n5_0:Int) (n6_0:Int) (pp07:Option Addr) (ll07 cc07:Nat) (n8_0:Int) (n9_0:Int):xfun Tryz.prog [] Tryz.f78 [.agg #[vI n0,.string s1_0,vI n2_0,vI n3_0,vI n4_0,.int .i32 n5_0,vI n6_0,.slice pp07 ll07 cc07,.int .u32 n8_0,vI n9_0]]=t_item_instruction n0 s1_0 n2_0 n3_0 n4_0 n5_0 n6_0 pp07 ll07 cc07 n8_0 n9_0:=by kernel_rfl
def t_unit_Right (pp00:Option Addr) (ll00 cc00:Nat) (pp01:Option Addr) (ll01 cc01:Nat) (pp02:Option Addr) (ll02 cc02:Nat) (pp03:Option Addr) (ll03 cc03:Nat):T :=
 T.new [.slice pp00 ll00 cc00,.slice pp01 ll01 cc01,.slice pp02 ll02 cc02,.slice pp03 ll03 cc03] 27 <| fun a1 =>
 T.loads a1 [.slice 96] <| fun p2 l3 l4 =>
 T.loads (a1.add 1) [.slice 96] <| fun p5 l6 l7 =>
 cond (decide ((IntKind.wrap .i64 ((l3:Int)+(l6:Int)))>(8192:Int)))
 (T.ret (vI 4))
 (T.loads (a1.add 2) [.slice 99] <| fun p8 l9 l10 =>
 cond (decide ((l9:Int)>(8192:Int)))
 (T.ret (vI 4))
 (T.sem Tryz.prog (Instr.makeMap 70 none) false [(false,[.map 0 0])] <| fun r11 =>
 T.loads a1 [.slice 96] <| fun p12 l13 l14 =>
 T.loads (a1.add 1) [.slice 96] <| fun p15 l16 l17 =>
 T.sem Tryz.prog (Instr.buildSlice 100 2 #[(0,.slice p12 l13 l14),(1,.slice p15 l16 l17)]) false [(false,[.slice 0])] <| fun p18 l19 l20 =>
 T.loop [(false,[.int .i64]),(false,[.int .i64])] [vI 0,vI 0] <| fun n21 n22 =>
 cond (decide (n22<(l19:Int)))
 (T.need (((0:Int)≤n22)∧(n22<(l19:Int))) <|
 T.osome p18 <| fun a23 =>
 T.loads (a23.add ((Int.toNat n22)*1)) [.slice 96] <| fun p24 l25 l26 =>
 T.loop [(false,[.int .i64]),(false,[.int .i64])] [vI n21,vI 0] <| fun n27 n28 =>
 cond (decide (n28<(l25:Int)))
 (T.need (((0:Int)≤n28)∧(n28<(l25:Int))) <|
 T.osome p24 <| fun a29 =>
 T.loads (a29.add ((Int.toNat n28)*10)) yI <| fun n30 s31 n32 n33 n34 n35 n36 p37 l38 l39 n40 n41 =>
 T.new [vI 0,.string ⟨#[]⟩,vI 0,vI 0,vI 0,.int .i32 0,vI 0,.slice none 0 0,.int .u32 0,vI 0] 96 <| fun a42 =>
 T.stores a42 [vI n30,.string s31,vI n32,vI n33,vI n34,.int .i32 n35,vI n36,.slice p37 l38 l39,.int .u32 n40,vI n41] <|
 T.loads a42 yI <| fun n43 s44 n45 n46 n47 n48 n49 p50 l51 l52 n53 n54 =>
 T.call Tryz.prog 44 [.agg #[vI n43,.string s44,vI n45,vI n46,vI n47,.int .i32 n48,vI n49,.slice p50 l51 l52,.int .u32 n53,vI n54],vI n22] false [(false,[.int .i64])] <| fun n55 =>
 cond (n55 != (0:Int))
 (T.ret (vI 31))
 (T.loads a42 [.int .i64] <| fun n56 =>
 cond (n56==(1:Int))
 (T.loads (a42.add 1) [.string] <| fun s57 =>
 T.sem Tryz.prog (Instr.lookup 70 (.map r11) (.string s57) false) false [(false,[.bool])] <| fun b58 =>
 cond b58
 (T.ret (vI 31))
 (T.loads a42 [.int .i64] <| fun n59 =>
 cond (n59==(1:Int))
 (T.loads (a42.add 1) [.string] <| fun s60 =>
 T.semU Tryz.prog (Instr.mapUpdate 70 (.map r11) (.string s60) (.bool true)) <|
 T.again 1 [vI n27,vI (IntKind.wrap .i64 (n28+(1:Int)))])
 (T.again 1 [vI n27,vI (IntKind.wrap .i64 (n28+(1:Int)))])))
 (T.loads a42 [.int .i64] <| fun n57 =>
 cond (n57==(1:Int))
 (T.loads (a42.add 1) [.string] <| fun s58 =>
 T.semU Tryz.prog (Instr.mapUpdate 70 (.map r11) (.string s58) (.bool true)) <|
 T.again 1 [vI n27,vI (IntKind.wrap .i64 (n28+(1:Int)))])
 (T.again 1 [vI n27,vI (IntKind.wrap .i64 (n28+(1:Int)))]))))
 (T.again 0 [vI n27,vI (IntKind.wrap .i64 (n22+(1:Int)))]))
 (T.loads (a1.add 2) [.slice 99] <| fun p23 l24 l25 =>
 T.loop [(false,[.int .i64]),(false,[.int .i64])] [vI n21,vI 0] <| fun n26 n27 =>
 cond (decide (n27<(l24:Int)))
 (T.need (((0:Int)≤n27)∧(n27<(l24:Int))) <|
 T.osome p23 <| fun a28 =>
 T.loads (a28.add ((Int.toNat n27)*3)) [.string,.slice 109,.int .u32] <| fun s29 p30 l31 l32 n33 =>
 T.new [.string ⟨#[]⟩,.slice none 0 0,.int .u32 0] 99 <| fun a34 =>
 T.stores a34 [.string s29,.slice p30 l31 l32,.int .u32 n33] <|
 T.loads a34 [.string] <| fun s35 =>
 T.sem Tryz.prog (Instr.lookup 70 (.map r11) (.string s35) false) false [(false,[.bool])] <| fun b36 =>
 cond b36
 (T.ret (vI 31))
 (T.loads a34 [.string] <| fun s37 =>
 T.call Tryz.prog 45 [.string s37] false [(false,[.bool])] <| fun b38 =>
 cond (!b38)
 (T.ret (vI 31))
 (T.loads (a34.add 1) [.slice 109,.int .u32] <| fun p39 l40 l41 n42 =>
 T.call Tryz.prog 46 [.agg #[.slice p39 l40 l41,.int .u32 n42]] false [(false,[.bool])] <| fun b43 =>
 cond (!b43)
 (T.ret (vI 31))
 (T.loads a34 [.string] <| fun s44 =>
 T.semU Tryz.prog (Instr.mapUpdate 70 (.map r11) (.string s44) (.bool true)) <|
 T.again 1 [vI n26,vI (IntKind.wrap .i64 (n27+(1:Int)))]))))
 (T.loads (a1.add 3) [.slice 9] <| fun p28 l29 l30 =>
 T.loop [(false,[.int .i64]),(false,[.int .i64])] [vI n26,vI 0] <| fun n31 n32 =>
 cond (decide (n32<(l29:Int)))
 (T.need (((0:Int)≤n32)∧(n32<(l29:Int))) <|
 T.osome p28 <| fun a33 =>
 T.loads (a33.add ((Int.toNat n32)*1)) [.string] <| fun s34 =>
 T.sem Tryz.prog (Instr.lookup 70 (.map r11) (.string s34) false) false [(false,[.bool])] <| fun b35 =>
 cond (!b35)
 (T.ret (vI 31))
 (cond (decide (n32>(0:Int)))
 (T.loads (a1.add 3) [.slice 9] <| fun p36 l37 l38 =>
 T.need (((0:Int)≤(IntKind.wrap .i64 (n32-(1:Int))))∧((IntKind.wrap .i64 (n32-(1:Int)))<(l37:Int))) <|
 T.osome p36 <| fun a39 =>
 T.loads (a39.add ((Int.toNat (IntKind.wrap .i64 (n32-(1:Int))))*1)) [.string] <| fun s40 =>
 cond ((Op.bytesLess (ByteArray.toList s34) (ByteArray.toList s40)) || ((ByteArray.toList s34)==(ByteArray.toList s40)))
 (T.ret (vI 31))
 (T.again 2 [vI n31,vI (IntKind.wrap .i64 (n32+(1:Int)))]))
 (T.again 2 [vI n31,vI (IntKind.wrap .i64 (n32+(1:Int)))])))
 (T.ret (vI 0))))))
theorem t_unit_Right_eq (pp00:Option Addr) (ll00 cc00:Nat) (pp01:Option Addr) (ll01 cc01:Nat) (pp02:Option Addr) (ll02 cc02:Nat) (pp03:Option Addr) (ll03 cc03:Nat):xfun Tryz.prog [] Tryz.f18 [.agg #[.slice pp00 ll00 cc00,.slice pp01 ll01 cc01,.slice pp02 ll02 cc02,.slice pp03 ll03 cc03]]=t_unit_Right pp00 ll00 cc00 pp01 ll01 cc01 pp02 ll02 cc02 pp03 ll03 cc03:=by kernel_rfl
end Go.Sx
