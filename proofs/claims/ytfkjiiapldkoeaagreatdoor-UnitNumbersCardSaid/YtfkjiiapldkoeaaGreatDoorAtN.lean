/- Trees of functions, each checked by the kernel against the code. No condition. -/
import Derived.Test.YtfkjiiapldkoeaaGreatDoorSxF
import Derived.Test.YtfkjiiapldkoeaaGreatDoorProg
import Derived.KernelRfl
set_option linter.unusedVariables false
set_option linter.unusedSimpArgs false
set_option linter.deprecated false
set_option maxRecDepth 100000
namespace Go.Sx
open Go.Proofs
def t_unit_Names (pp00:Option Addr) (ll00 cc00:Nat) (pp01:Option Addr) (ll01 cc01:Nat) (pp02:Option Addr) (ll02 cc02:Nat) (pp03:Option Addr) (ll03 cc03:Nat):T :=
 T.new [.slice pp00 ll00 cc00,.slice pp01 ll01 cc01,.slice pp02 ll02 cc02,.slice pp03 ll03 cc03] 27 <| fun a1 =>
 T.loads a1 [.slice 96,.slice 96,.slice 99,.slice 9] <| fun p2 l3 l4 p5 l6 l7 p8 l9 l10 p11 l12 l13 =>
 T.call Tryz.prog 18 [.agg #[.slice p2 l3 l4,.slice p5 l6 l7,.slice p8 l9 l10,.slice p11 l12 l13]] false [(false,[.int .i64])] <| fun n14 =>
 cond (n14 != (0:Int))
 (T.ret (.slice none 0 0))
 (T.loads a1 [.slice 96] <| fun p15 l16 l17 =>
 T.loads (a1.add 1) [.slice 96] <| fun p18 l19 l20 =>
 T.call Tryz.prog 42 [.slice p15 l16 l17] false [(false,[.slice 96])] <| fun p21 l22 l23 =>
 T.stable [((a1.add 1),[.slice p18 l19 l20])] <|
 T.sem Tryz.prog (Builtin.append_ #[23,23] 23 #[.slice p21 l22 l23,.slice p18 l19 l20]) false [(false,[.slice 0])] <| fun p24 l25 l26 =>
 T.stable [(a1,[.slice p15 l16 l17])] <|
 T.loop [(false,[.slice 0]),(false,[.int .i64])] [.slice none 0 0,vI 0] <| fun p27 l28 l29 n30 =>
 cond (decide (n30<(l25:Int)))
 (T.need (((0:Int)≤n30)∧(n30<(l25:Int))) <|
 T.osome p24 <| fun a31 =>
 T.loads (a31.add ((Int.toNat n30)*10)) yI <| fun n32 s33 n34 n35 n36 n37 n38 p39 l40 l41 n42 n43 =>
 T.new [vI 0,.string ⟨#[]⟩,vI 0,vI 0,vI 0,.int .i32 0,vI 0,.slice none 0 0,.int .u32 0,vI 0] 96 <| fun a44 =>
 T.stores a44 [vI n32,.string s33,vI n34,vI n35,vI n36,.int .i32 n37,vI n38,.slice p39 l40 l41,.int .u32 n42,vI n43] <|
 T.loads a44 [.int .i64] <| fun n45 =>
 cond (n45==(1:Int))
 (T.loads (a44.add 1) [.string] <| fun s46 =>
 T.sem Tryz.prog (Instr.buildSlice 25 1 #[(0,.string s46)]) false [(false,[.slice 0])] <| fun p47 l48 l49 =>
 T.sem Tryz.prog (Builtin.append_ #[25,25] 25 #[.slice p27 l28 l29,.slice p47 l48 l49]) false [(false,[.slice 0])] <| fun p50 l51 l52 =>
 T.again 0 [.slice p50 l51 l52,vI (IntKind.wrap .i64 (n30+(1:Int)))])
 (T.again 0 [.slice p27 l28 l29,vI (IntKind.wrap .i64 (n30+(1:Int)))]))
 (T.loads (a1.add 2) [.slice 99] <| fun p31 l32 l33 =>
 T.loop [(false,[.slice 0]),(false,[.int .i64])] [.slice p27 l28 l29,vI 0] <| fun p34 l35 l36 n37 =>
 cond (decide (n37<(l32:Int)))
 (T.need (((0:Int)≤n37)∧(n37<(l32:Int))) <|
 T.osome p31 <| fun a38 =>
 T.loads (a38.add ((Int.toNat n37)*3)) [.string,.slice 109,.int .u32] <| fun s39 p40 l41 l42 n43 =>
 T.new [.string ⟨#[]⟩,.slice none 0 0,.int .u32 0] 99 <| fun a44 =>
 T.stores a44 [.string s39,.slice p40 l41 l42,.int .u32 n43] <|
 T.loads a44 [.string] <| fun s45 =>
 T.sem Tryz.prog (Instr.buildSlice 25 1 #[(0,.string s45)]) false [(false,[.slice 0])] <| fun p46 l47 l48 =>
 T.sem Tryz.prog (Builtin.append_ #[25,25] 25 #[.slice p34 l35 l36,.slice p46 l47 l48]) false [(false,[.slice 0])] <| fun p49 l50 l51 =>
 T.again 1 [.slice p49 l50 l51,vI (IntKind.wrap .i64 (n37+(1:Int)))])
 (T.call Tryz.prog 43 [.slice p34 l35 l36] true [] <| T.ret (.slice p34 l35 l36))))
theorem t_unit_Names_eq (pp00:Option Addr) (ll00 cc00:Nat) (pp01:Option Addr) (ll01 cc01:Nat) (pp02:Option Addr) (ll02 cc02:Nat) (pp03:Option Addr) (ll03 cc03:Nat):xfun Tryz.prog [] Tryz.f16 [.agg #[.slice pp00 ll00 cc00,.slice pp01 ll01 cc01,.slice pp02 ll02 cc02,.slice pp03 ll03 cc03]]=t_unit_Names pp00 ll00 cc00 pp01 ll01 cc01 pp02 ll02 cc02 pp03 ll03 cc03:=by kernel_rfl
def t_unit_Spans (pp00:Option Addr) (ll00 cc00:Nat) (pp01:Option Addr) (ll01 cc01:Nat) (pp02:Option Addr) (ll02 cc02:Nat) (pp03:Option Addr) (ll03 cc03:Nat):T :=
 T.new [.slice pp00 ll00 cc00,.slice pp01 ll01 cc01,.slice pp02 ll02 cc02,.slice pp03 ll03 cc03] 27 <| fun a1 =>
 T.loads a1 [.slice 96,.slice 96,.slice 99,.slice 9] <| fun p2 l3 l4 p5 l6 l7 p8 l9 l10 p11 l12 l13 =>
 T.call Tryz.prog 18 [.agg #[.slice p2 l3 l4,.slice p5 l6 l7,.slice p8 l9 l10,.slice p11 l12 l13]] false [(false,[.int .i64])] <| fun n14 =>
 cond (n14 != (0:Int))
 (T.ret (vI 0))
 (T.loads a1 [.slice 96] <| fun p15 l16 l17 =>
 T.loop [(false,[.int .i64]),(false,[.int .i64])] [vI 0,vI 0] <| fun n18 n19 =>
 cond (decide (n19<(l16:Int)))
 (T.need (((0:Int)≤n19)∧(n19<(l16:Int))) <|
 T.osome p15 <| fun a20 =>
 T.loads (a20.add ((Int.toNat n19)*10)) yI <| fun n21 s22 n23 n24 n25 n26 n27 p28 l29 l30 n31 n32 =>
 T.new [vI 0,.string ⟨#[]⟩,vI 0,vI 0,vI 0,.int .i32 0,vI 0,.slice none 0 0,.int .u32 0,vI 0] 96 <| fun a33 =>
 T.stores a33 [vI n21,.string s22,vI n23,vI n24,vI n25,.int .i32 n26,vI n27,.slice p28 l29 l30,.int .u32 n31,vI n32] <|
 T.loads a33 [.int .i64] <| fun n34 =>
 cond (n34==(2:Int))
 (T.loads (a33.add 2) [.int .i64] <| fun n35 =>
 T.call Tryz.prog 51 [vI n35] false [(false,[.bool])] <| fun b36 =>
 cond b36
 (T.again 0 [vI (IntKind.wrap .i64 (n18+(1:Int))),vI (IntKind.wrap .i64 (n19+(1:Int)))])
 (T.again 0 [vI n18,vI (IntKind.wrap .i64 (n19+(1:Int)))]))
 (T.again 0 [vI n18,vI (IntKind.wrap .i64 (n19+(1:Int)))]))
 (T.ret (vI n18)))
theorem t_unit_Spans_eq (pp00:Option Addr) (ll00 cc00:Nat) (pp01:Option Addr) (ll01 cc01:Nat) (pp02:Option Addr) (ll02 cc02:Nat) (pp03:Option Addr) (ll03 cc03:Nat):xfun Tryz.prog [] Tryz.f21 [.agg #[.slice pp00 ll00 cc00,.slice pp01 ll01 cc01,.slice pp02 ll02 cc02,.slice pp03 ll03 cc03]]=t_unit_Spans pp00 ll00 cc00 pp01 ll01 cc01 pp02 ll02 cc02 pp03 ll03 cc03:=by kernel_rfl
def t_slices_Clip___api_Item_api_Item_ (pp00:Option Addr) (ll00 cc00:Nat):T :=
 T.sem Tryz.prog (Instr.sliceAt 23 (.slice pp00 ll00 cc00) none (some (vI (ll00:Int))) (some (vI (ll00:Int)))) false [(false,[.slice 0])] <| fun p1 l2 l3 =>
 T.ret (.slice p1 l2 l3)
theorem t_slices_Clip___api_Item_api_Item__eq (pp00:Option Addr) (ll00 cc00:Nat):xfun Tryz.prog [] Tryz.f42 [.slice pp00 ll00 cc00]=t_slices_Clip___api_Item_api_Item_ pp00 ll00 cc00:=by kernel_rfl
end Go.Sx
