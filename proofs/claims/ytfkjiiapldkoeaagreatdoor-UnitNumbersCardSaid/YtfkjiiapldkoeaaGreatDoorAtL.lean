/- Trees of functions, each checked by the kernel against the code. No condition. -/
import Derived.Test.YtfkjiiapldkoeaaGreatDoorSxF
import Derived.Test.YtfkjiiapldkoeaaGreatDoorProg
import Derived.KernelRfl
set_option linter.unusedVariables false
set_option linter.unusedSimpArgs false
set_option linter.deprecated false
set_option maxRecDepth 100000
namespace Go.Sx
open Go.Proofs
def t_unit_assembler__line (p0:Option Addr) (n1:Int) (s2:ByteArray):T :=
 T.call Tryz.prog 64 [.string s2] true [(true,[.string,.string,.slice 174]),(false,[.int .i64]),(false,[.int .i64])] <| fun s3 s4 p5 l6 l7 n8 n9 =>
 T.new [.string ⟨#[]⟩,.string ⟨#[]⟩,.slice none 0 0] 130 <| fun a10 =>
 T.stores a10 [.string s3,.string s4,.slice p5 l6 l7] <|
 cond (n9 != (0:Int))
 (T.ret (vI n9))
 (T.join [(false,[.bool])]
 (T.loads a10 [.string] <| fun s11 =>
 cond (!((ByteArray.toList s11)==[]))
 (T.loads a10 [.string] <| fun s12 =>
 T.call Tryz.prog 45 [.string s12] false [(false,[.bool])] <| fun b13 =>
 T.again 0 [.bool (!b13)])
 (T.again 0 [.bool false])) <| fun b11 =>
 cond b11
 (T.ret (vI 21))
 (T.loads a10 [.string,.string,.slice 174] <| fun s12 s13 p14 l15 l16 =>
 T.osome p0 <| fun a17 =>
 T.loads (a17.add 4) [.int .i64] <| fun n18 =>
 T.all [ (T.call Tryz.prog 65 [.agg #[.string s12,.string s13,.slice p14 l15 l16],vI n18] true [(true,yT),(false,[.int .i64])] <| fun n19 p20 l21 l22 s23 p24 l25 l26 n27 n28 n29 =>
 T.new [vI 0,.slice none 0 0,.string ⟨#[]⟩,.slice none 0 0,.int .u32 0,vI 0] 134 <| fun a30 =>
 T.stable [((a17.add 4),[vI n18]),(a10,[.string s12,.string s13,.slice p14 l15 l16])] <|
 T.stores a30 [vI n19,.slice p20 l21 l22,.string s23,.slice p24 l25 l26,.int .u32 n27,vI n28] <|
 cond (n29 != (0:Int))
 (T.ret (vI n29))
 (T.join [(false,[.string])]
 (T.loads a30 [.int .i64] <| fun n31 =>
 cond (n31==(3:Int))
 (T.loads (a30.add 2) [.string] <| fun s32 =>
 T.again 0 [.string s32])
 (T.again 0 [.string ⟨#[]⟩])) <| fun s31 =>
 T.join [(false,[.bool])]
 (T.loads a10 [.string] <| fun s32 =>
 cond (!((ByteArray.toList s32)==[]))
 (T.osome p0 <| fun a33 =>
 T.loads (a33.add 6) [.map 9 4] <| fun r34 =>
 T.loads a10 [.string] <| fun s35 =>
 T.sem Tryz.prog (Instr.lookup 70 (.map r34) (.string s35) false) false [(false,[.bool])] <| fun b36 =>
 T.stable [(a10,[.string s32])] <|
 cond b36
 (T.again 0 [.bool true])
 (T.loads a10 [.string] <| fun s37 =>
 cond ((ByteArray.toList s37)==(ByteArray.toList s31))
 (T.again 0 [.bool true])
 (T.osome p0 <| fun a38 =>
 T.loads (a38.add 6) [.map 9 4] <| fun r39 =>
 T.sem Tryz.prog (Instr.lookup 70 (.map r39) (.string s31) false) false [(false,[.bool])] <| fun b40 =>
 T.stable [(a10,[.string s37]),(a10,[.string s35]),((a33.add 6),[.map r34]),(a10,[.string s32])] <|
 T.again 0 [.bool b40])))
 (T.osome p0 <| fun a33 =>
 T.loads (a33.add 6) [.map 9 4] <| fun r34 =>
 T.sem Tryz.prog (Instr.lookup 70 (.map r34) (.string s31) false) false [(false,[.bool])] <| fun b35 =>
 T.stable [(a10,[.string s32])] <|
 T.again 0 [.bool b35])) <| fun b32 =>
 cond b32
 (T.ret (vI 22))
 (T.loads (a30.add 1) [.slice 96] <| fun p33 l34 l35 =>
 T.join [(false,[.int .i64])]
 (T.loads a10 [.string] <| fun s36 =>
 cond (!((ByteArray.toList s36)==[]))
 (T.again 0 [vI (IntKind.wrap .i64 ((l34:Int)+(1:Int)))])
 (T.again 0 [vI (l34:Int)])) <| fun n36 =>
 T.osome p0 <| fun a37 =>
 T.loads (a37.add 5) [.int .i64] <| fun n38 =>
 cond (decide ((IntKind.wrap .i64 (n38+n36))>(8192:Int)))
 (T.ret (vI 4))
 (T.join []
 (T.loads a10 [.string] <| fun s39 =>
 cond (!((ByteArray.toList s39)==[]))
 (T.osome p0 <| fun a40 =>
 T.loads (a40.add 6) [.map 9 4] <| fun r41 =>
 T.loads a10 [.string] <| fun s42 =>
 T.semU Tryz.prog (Instr.mapUpdate 70 (.map r41) (.string s42) (.bool true)) <|
 T.osome p0 <| fun a43 =>
 T.loads (a43.add 4) [.int .i64] <| fun n44 =>
 T.loads a10 [.string] <| fun s45 =>
 T.sem Tryz.prog (Instr.buildSlice 23 1 #[(0,.agg #[vI 1,.string s45,vI 0,vI 0,vI 0,.int .i32 0,vI 0,.slice none 0 0,.int .u32 0,vI 0])]) false [(false,[.slice 0])] <| fun p46 l47 l48 =>
 T.stable [(a10,[.string s45]),((a43.add 4),[vI n44])] <|
 T.call Tryz.prog 66 [.pointer p0,vI n44,.slice p46 l47 l48] true [] <| T.stable [(a10,[.string s45])] <|
 T.again 0 [])
 (T.again 0 [])) <| T.osome p0 <| fun a39 =>
 T.loads (a39.add 4) [.int .i64] <| fun n40 =>
 T.loads (a30.add 1) [.slice 96] <| fun p41 l42 l43 =>
 T.call Tryz.prog 66 [.pointer p0,vI n40,.slice p41 l42 l43] true [] <| T.join []
 (T.loads a30 [.int .i64] <| fun n44 =>
 cond (n44==(3:Int))
 (T.osome p0 <| fun a45 =>
 T.loads (a45.add 6) [.map 9 4] <| fun r46 =>
 T.semU Tryz.prog (Instr.mapUpdate 70 (.map r46) (.string s31) (.bool true)) <|
 T.osome p0 <| fun a47 =>
 T.loads (a47.add 2) [.slice 99] <| fun p48 l49 l50 =>
 T.loads (a30.add 2) [.string] <| fun s51 =>
 T.loads (a30.add 3) [.slice 109,.int .u32] <| fun p52 l53 l54 n55 =>
 T.sem Tryz.prog (Instr.buildSlice 24 1 #[(0,.agg #[.string s51,.slice p52 l53 l54,.int .u32 n55])]) false [(false,[.slice 0])] <| fun p56 l57 l58 =>
 T.stable [((a30.add 3),[.slice p52 l53 l54,.int .u32 n55]),((a30.add 2),[.string s51]),((a47.add 2),[.slice p48 l49 l50])] <|
 T.sem Tryz.prog (Builtin.append_ #[24,24] 24 #[.slice p48 l49 l50,.slice p56 l57 l58]) false [(false,[.slice 0])] <| fun p59 l60 l61 =>
 T.stable [((a30.add 3),[.slice p52 l53 l54,.int .u32 n55]),((a30.add 2),[.string s51])] <|
 T.osome p0 <| fun a62 =>
 T.stores (a62.add 2) [.slice p59 l60 l61] <|
 T.again 0 [])
 (cond (n44==(4:Int))
 (T.osome p0 <| fun a45 =>
 T.loads (a45.add 7) [.slice 76] <| fun p46 l47 l48 =>
 T.loads (a30.add 2) [.string] <| fun s49 =>
 T.sem Tryz.prog (Instr.buildSlice 71 1 #[(0,.agg #[.string s49,vI n1])]) false [(false,[.slice 0])] <| fun p50 l51 l52 =>
 T.stable [((a30.add 2),[.string s49]),((a45.add 7),[.slice p46 l47 l48])] <|
 T.sem Tryz.prog (Builtin.append_ #[71,71] 71 #[.slice p46 l47 l48,.slice p50 l51 l52]) false [(false,[.slice 0])] <| fun p53 l54 l55 =>
 T.stable [((a30.add 2),[.string s49])] <|
 T.osome p0 <| fun a56 =>
 T.stores (a56.add 7) [.slice p53 l54 l55] <|
 T.again 0 [])
 (cond (n44==(5:Int))
 (T.loads (a30.add 5) [.int .i64] <| fun n45 =>
 T.osome p0 <| fun a46 =>
 T.stores (a46.add 4) [vI n45] <|
 T.again 0 [])
 (T.again 0 [])))) <| T.ret (vI 0))))),
 (T.new [vI 0,.slice none 0 0,.string ⟨#[]⟩,.slice none 0 0,.int .u32 0,vI 0] 134 <| fun a19 =>
 T.stable [((a17.add 4),[vI n18]),(a10,[.string s12,.string s13,.slice p14 l15 l16])] <|
 T.call Tryz.prog 65 [.agg #[.string s12,.string s13,.slice p14 l15 l16],vI n18] true [(true,yT),(false,[.int .i64])] <| fun n20 p21 l22 l23 s24 p25 l26 l27 n28 n29 n30 =>
 T.stores a19 [vI n20,.slice p21 l22 l23,.string s24,.slice p25 l26 l27,.int .u32 n28,vI n29] <|
 cond (n30 != (0:Int))
 (T.ret (vI n30))
 (T.join [(false,[.string])]
 (T.loads a19 [.int .i64] <| fun n31 =>
 cond (n31==(3:Int))
 (T.loads (a19.add 2) [.string] <| fun s32 =>
 T.again 0 [.string s32])
 (T.again 0 [.string ⟨#[]⟩])) <| fun s31 =>
 T.join [(false,[.bool])]
 (T.loads a10 [.string] <| fun s32 =>
 cond (!((ByteArray.toList s32)==[]))
 (T.osome p0 <| fun a33 =>
 T.loads (a33.add 6) [.map 9 4] <| fun r34 =>
 T.loads a10 [.string] <| fun s35 =>
 T.sem Tryz.prog (Instr.lookup 70 (.map r34) (.string s35) false) false [(false,[.bool])] <| fun b36 =>
 T.stable [(a10,[.string s32])] <|
 cond b36
 (T.again 0 [.bool true])
 (T.loads a10 [.string] <| fun s37 =>
 cond ((ByteArray.toList s37)==(ByteArray.toList s31))
 (T.again 0 [.bool true])
 (T.osome p0 <| fun a38 =>
 T.loads (a38.add 6) [.map 9 4] <| fun r39 =>
 T.sem Tryz.prog (Instr.lookup 70 (.map r39) (.string s31) false) false [(false,[.bool])] <| fun b40 =>
 T.stable [(a10,[.string s37]),(a10,[.string s35]),((a33.add 6),[.map r34]),(a10,[.string s32])] <|
 T.again 0 [.bool b40])))
 (T.osome p0 <| fun a33 =>
 T.loads (a33.add 6) [.map 9 4] <| fun r34 =>
 T.sem Tryz.prog (Instr.lookup 70 (.map r34) (.string s31) false) false [(false,[.bool])] <| fun b35 =>
 T.stable [(a10,[.string s32])] <|
 T.again 0 [.bool b35])) <| fun b32 =>
 cond b32
 (T.ret (vI 22))
 (T.loads (a19.add 1) [.slice 96] <| fun p33 l34 l35 =>
 T.join [(false,[.int .i64])]
 (T.loads a10 [.string] <| fun s36 =>
 cond (!((ByteArray.toList s36)==[]))
 (T.again 0 [vI (IntKind.wrap .i64 ((l34:Int)+(1:Int)))])
 (T.again 0 [vI (l34:Int)])) <| fun n36 =>
 T.osome p0 <| fun a37 =>
 T.loads (a37.add 5) [.int .i64] <| fun n38 =>
 cond (decide ((IntKind.wrap .i64 (n38+n36))>(8192:Int)))
 (T.ret (vI 4))
 (T.join []
 (T.loads a10 [.string] <| fun s39 =>
 cond (!((ByteArray.toList s39)==[]))
 (T.osome p0 <| fun a40 =>
 T.loads (a40.add 6) [.map 9 4] <| fun r41 =>
 T.loads a10 [.string] <| fun s42 =>
 T.semU Tryz.prog (Instr.mapUpdate 70 (.map r41) (.string s42) (.bool true)) <|
 T.osome p0 <| fun a43 =>
 T.loads (a43.add 4) [.int .i64] <| fun n44 =>
 T.loads a10 [.string] <| fun s45 =>
 T.sem Tryz.prog (Instr.buildSlice 23 1 #[(0,.agg #[vI 1,.string s45,vI 0,vI 0,vI 0,.int .i32 0,vI 0,.slice none 0 0,.int .u32 0,vI 0])]) false [(false,[.slice 0])] <| fun p46 l47 l48 =>
 T.stable [(a10,[.string s45]),((a43.add 4),[vI n44])] <|
 T.call Tryz.prog 66 [.pointer p0,vI n44,.slice p46 l47 l48] true [] <| T.stable [(a10,[.string s45])] <|
 T.again 0 [])
 (T.again 0 [])) <| T.osome p0 <| fun a39 =>
 T.loads (a39.add 4) [.int .i64] <| fun n40 =>
 T.loads (a19.add 1) [.slice 96] <| fun p41 l42 l43 =>
 T.call Tryz.prog 66 [.pointer p0,vI n40,.slice p41 l42 l43] true [] <| T.join []
 (T.loads a19 [.int .i64] <| fun n44 =>
 cond (n44==(3:Int))
 (T.osome p0 <| fun a45 =>
 T.loads (a45.add 6) [.map 9 4] <| fun r46 =>
 T.semU Tryz.prog (Instr.mapUpdate 70 (.map r46) (.string s31) (.bool true)) <|
 T.osome p0 <| fun a47 =>
 T.loads (a47.add 2) [.slice 99] <| fun p48 l49 l50 =>
 T.loads (a19.add 2) [.string] <| fun s51 =>
 T.loads (a19.add 3) [.slice 109,.int .u32] <| fun p52 l53 l54 n55 =>
 T.sem Tryz.prog (Instr.buildSlice 24 1 #[(0,.agg #[.string s51,.slice p52 l53 l54,.int .u32 n55])]) false [(false,[.slice 0])] <| fun p56 l57 l58 =>
 T.stable [((a19.add 3),[.slice p52 l53 l54,.int .u32 n55]),((a19.add 2),[.string s51]),((a47.add 2),[.slice p48 l49 l50])] <|
 T.sem Tryz.prog (Builtin.append_ #[24,24] 24 #[.slice p48 l49 l50,.slice p56 l57 l58]) false [(false,[.slice 0])] <| fun p59 l60 l61 =>
 T.stable [((a19.add 3),[.slice p52 l53 l54,.int .u32 n55]),((a19.add 2),[.string s51])] <|
 T.osome p0 <| fun a62 =>
 T.stores (a62.add 2) [.slice p59 l60 l61] <|
 T.again 0 [])
 (cond (n44==(4:Int))
 (T.osome p0 <| fun a45 =>
 T.loads (a45.add 7) [.slice 76] <| fun p46 l47 l48 =>
 T.loads (a19.add 2) [.string] <| fun s49 =>
 T.sem Tryz.prog (Instr.buildSlice 71 1 #[(0,.agg #[.string s49,vI n1])]) false [(false,[.slice 0])] <| fun p50 l51 l52 =>
 T.stable [((a19.add 2),[.string s49]),((a45.add 7),[.slice p46 l47 l48])] <|
 T.sem Tryz.prog (Builtin.append_ #[71,71] 71 #[.slice p46 l47 l48,.slice p50 l51 l52]) false [(false,[.slice 0])] <| fun p53 l54 l55 =>
 T.stable [((a19.add 2),[.string s49])] <|
 T.osome p0 <| fun a56 =>
 T.stores (a56.add 7) [.slice p53 l54 l55] <|
 T.again 0 [])
 (cond (n44==(5:Int))
 (T.loads (a19.add 5) [.int .i64] <| fun n45 =>
 T.osome p0 <| fun a46 =>
 T.stores (a46.add 4) [vI n45] <|
 T.again 0 [])
 (T.again 0 [])))) <| T.ret (vI 0)))))]))
theorem t_unit_assembler__line_eq (p0:Option Addr) (n1:Int) (s2:ByteArray):xfun Tryz.prog [4,1012,12,1017,1022,1031] Tryz.f33 [.pointer p0,vI n1,.string s2]=t_unit_assembler__line p0 n1 s2:=by kernel_rfl
def t_unit_assembler__put (p0:Option Addr) (n1:Int) (pp20:Option Addr) (ll20 cc20:Nat):T :=
 cond (n1==(1:Int))
 (T.osome p0 <| fun a3 =>
 T.loads (a3.add 1) [.slice 96] <| fun p4 l5 l6 =>
 T.sem Tryz.prog (Builtin.append_ #[23,23] 23 #[.slice p4 l5 l6,.slice pp20 ll20 cc20]) false [(false,[.slice 0])] <| fun p7 l8 l9 =>
 T.osome p0 <| fun a10 =>
 T.stores (a10.add 1) [.slice p7 l8 l9] <|
 T.osome p0 <| fun a11 =>
 T.loads (a11.add 5) [.int .i64] <| fun n12 =>
 T.osome p0 <| fun a13 =>
 T.stores (a13.add 5) [vI (IntKind.wrap .i64 (n12+(ll20:Int)))] <|
 T.ret (.tuple #[]))
 (T.osome p0 <| fun a3 =>
 T.loads a3 [.slice 96] <| fun p4 l5 l6 =>
 T.sem Tryz.prog (Builtin.append_ #[23,23] 23 #[.slice p4 l5 l6,.slice pp20 ll20 cc20]) false [(false,[.slice 0])] <| fun p7 l8 l9 =>
 T.osome p0 <| fun a10 =>
 T.stores a10 [.slice p7 l8 l9] <|
 T.osome p0 <| fun a11 =>
 T.loads (a11.add 5) [.int .i64] <| fun n12 =>
 T.osome p0 <| fun a13 =>
 T.stores (a13.add 5) [vI (IntKind.wrap .i64 (n12+(ll20:Int)))] <|
 T.ret (.tuple #[]))
theorem t_unit_assembler__put_eq (p0:Option Addr) (n1:Int) (pp20:Option Addr) (ll20 cc20:Nat):xfun Tryz.prog [] Tryz.f66 [.pointer p0,vI n1,.slice pp20 ll20 cc20]=t_unit_assembler__put p0 n1 pp20 ll20 cc20:=by kernel_rfl
end Go.Sx
