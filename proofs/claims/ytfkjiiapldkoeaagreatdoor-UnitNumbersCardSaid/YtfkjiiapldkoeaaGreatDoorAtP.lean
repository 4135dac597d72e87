/- Trees of functions, each checked by the kernel against the code. No condition. -/
import Derived.Test.YtfkjiiapldkoeaaGreatDoorSxF
import Derived.Test.YtfkjiiapldkoeaaGreatDoorProg
import Derived.KernelRfl
set_option linter.unusedVariables false
set_option linter.unusedSimpArgs false
set_option linter.deprecated false
set_option maxRecDepth 100000
namespace Go.Sx
open Go.Proofs
def t_spandrellaw9_UnitNumbers :T :=
 T.call Tryz.prog 10 [.string ⟨#[115, 101, 99, 116, 105, 111, 110, 32, 100, 97, 116, 97, 10, 120, 58, 32, 119, 111, 114, 100, 32, 121, 44, 32, 51, 10, 103, 108, 111, 98, 97, 108, 32, 120, 10, 103, 108, 111, 98, 97, 108, 32, 120]⟩] true [(true, [.slice 96, .slice 96, .slice 99, .slice 9]), (false, [.interface #[("Error", 85)]])] <| fun (p1 : Option Addr) (l2 : Nat) (l3 : Nat) (p4 : Option Addr) (l5 : Nat) (l6 : Nat) (p7 : Option Addr) (l8 : Nat) (l9 : Nat) (p10 : Option Addr) (l11 : Nat) (l12 : Nat) (v13 : Value) =>
 T.new [.slice none 0 0,.slice none 0 0,.slice none 0 0,.slice none 0 0] 27 <| fun a14 =>
 T.stores a14 [.slice p1 l2 l3,.slice p4 l5 l6,.slice p7 l8 l9,.slice p10 l11 l12] <|
 T.sem Tryz.prog (Sx.cmpS (BinOp.neq) 29 (Operand.tmp 11) (Operand.const Value.nilIface) v13 .nilIface) false [(false,[.bool])] <| fun b15 =>
 cond b15
 (T.ret (.bool false))
 (T.loads a14 [.slice 96] <| fun p16 l17 l18 =>
 cond ((l17:Int) != (0:Int))
 (T.ret (.bool false))
 (T.loads (a14.add 1) [.slice 96] <| fun p19 l20 l21 =>
 cond ((l20:Int) != (3:Int))
 (T.ret (.bool false))
 (T.loads (a14.add 3) [.slice 9] <| fun p22 l23 l24 =>
 T.sem Tryz.prog (Instr.buildSlice 25 1 #[(0,.string ⟨#[120]⟩)]) false [(false,[.slice 0])] <| fun p25 l26 l27 =>
 T.call Tryz.prog 15 [.slice p22 l23 l24,.slice p25 l26 l27] false [(false,[.bool])] <| fun b28 =>
 cond (!b28)
 (T.ret (.bool false))
 (T.loads a14 [.slice 96,.slice 96,.slice 99,.slice 9] <| fun p29 l30 l31 p32 l33 l34 p35 l36 l37 p38 l39 l40 =>
 T.call Tryz.prog 16 [.agg #[.slice p29 l30 l31,.slice p32 l33 l34,.slice p35 l36 l37,.slice p38 l39 l40]] false [(false,[.slice 9])] <| fun p41 l42 l43 =>
 T.sem Tryz.prog (Instr.buildSlice 25 1 #[(0,.string ⟨#[120]⟩)]) false [(false,[.slice 0])] <| fun p44 l45 l46 =>
 T.call Tryz.prog 15 [.slice p41 l42 l43,.slice p44 l45 l46] false [(false,[.bool])] <| fun b47 =>
 cond (!b47)
 (T.ret (.bool false))
 (T.call Tryz.prog 10 [.string ⟨#[]⟩] true [(true, [.slice 96, .slice 96, .slice 99, .slice 9]), (false, [.interface #[("Error", 85)]])] <| fun (p48 : Option Addr) (l49 : Nat) (l50 : Nat) (p51 : Option Addr) (l52 : Nat) (l53 : Nat) (p54 : Option Addr) (l55 : Nat) (l56 : Nat) (p57 : Option Addr) (l58 : Nat) (l59 : Nat) (v60 : Value) =>
 T.new [.slice none 0 0,.slice none 0 0,.slice none 0 0,.slice none 0 0] 27 <| fun a61 =>
 T.stores a61 [.slice p48 l49 l50,.slice p51 l52 l53,.slice p54 l55 l56,.slice p57 l58 l59] <|
 T.sem Tryz.prog (Instr.makeSlice 42 (vI 4097) (vI 4097)) false [(false,[.slice 0])] <| fun p62 l63 l64 =>
 T.loop [(false,[.int .i64])] [vI 0] <| fun n65 =>
 cond (decide (n65<(l63:Int)))
 (T.need (((0:Int)≤n65)∧(n65<(l63:Int))) <|
 T.osome p62 <| fun a66 =>
 T.stores (a66.add ((Int.toNat n65)*1)) [.int .u8 10] <|
 T.again 0 [vI (IntKind.wrap .i64 (n65+(1:Int)))])
 (T.sem Tryz.prog (Sx.cmpS (BinOp.eql) 29 (Operand.tmp 53) (Operand.const Value.nilIface) v60 .nilIface) false [(false,[.bool])] <| fun b66 =>
 cond b66
 (T.loads a61 [.slice 96,.slice 96,.slice 99,.slice 9] <| fun p67 l68 l69 p70 l71 l72 p73 l74 l75 p76 l77 l78 =>
 T.call Tryz.prog 13 [.agg #[.slice p67 l68 l69,.slice p70 l71 l72,.slice p73 l74 l75,.slice p76 l77 l78],.agg #[.slice none 0 0,.slice none 0 0,.slice none 0 0,.slice none 0 0]] false [(false,[.bool])] <| fun b79 =>
 cond b79
 (T.call Tryz.prog 17 [.string ⟨#[103,108,111,98,97,108,32,98]⟩,vI 1,vI 23] false [(false,[.bool])] <| fun b80 =>
 cond b80
 (T.call Tryz.prog 17 [.string ⟨#[103,108,111,98,97,108,32,98,10,110,111,112,101]⟩,vI 2,vI 20] false [(false,[.bool])] <| fun b81 =>
 cond b81
 (T.call Tryz.prog 17 [.string ⟨#[114,49,58,32,110,111,112]⟩,vI 1,vI 21] false [(false,[.bool])] <| fun b82 =>
 cond b82
 (T.call Tryz.prog 17 [.string ⟨#[101,113,117,32,120,44,32,120,42,120]⟩,vI 1,vI 21] false [(false,[.bool])] <| fun b83 =>
 cond b83
 (T.call Tryz.prog 17 [.string ⟨#[120,58,32,101,113,117,32,120,44,32,49]⟩,vI 1,vI 22] false [(false,[.bool])] <| fun b84 =>
 cond b84
 (T.sem Tryz.prog (Instr.makeSlice 42 (vI 65537) (vI 65537)) false [(false,[.slice 0])] <| fun p85 l86 l87 =>
 T.sem Tryz.prog (convert 42 9 (.slice p85 l86 l87)) false [(false,[.string])] <| fun s88 =>
 T.call Tryz.prog 17 [.string s88,vI 0,vI 3] false [(false,[.bool])] <| fun b89 =>
 cond b89
 (T.sem Tryz.prog (convert 42 9 (.slice p62 l63 l64)) false [(false,[.string])] <| fun s90 =>
 T.call Tryz.prog 17 [.string s90,vI 4097,vI 4] false [(false,[.bool])] <| fun b91 =>
 cond b91
 (T.need (((0:Int)≤(0:Int))∧(((0:Int)≤(4096:Int))∧((4096:Int)≤(l64:Int)))) <|
 T.sem Tryz.prog (convert 42 9 (.slice (if (l64=0) then p62 else (Option.map (fun a=>Addr.add a 0) p62)) ((Int.toNat (4096:Int))-0) (l64-0))) false [(false,[.string])] <| fun s92 =>
 T.call Tryz.prog 17 [.string s92,vI 0,vI 0] false [(false,[.bool])] <| fun b93 =>
 cond b93
 (T.sem Tryz.prog (Instr.buildSlice 25 1 #[(0,.string ⟨#[97]⟩)]) false [(false,[.slice 0])] <| fun p94 l95 l96 =>
 T.call Tryz.prog 18 [.agg #[.slice none 0 0,.slice none 0 0,.slice none 0 0,.slice p94 l95 l96]] false [(false,[.int .i64])] <| fun n97 =>
 cond (n97==(31:Int))
 (T.sem Tryz.prog (Instr.buildSlice 25 1 #[(0,.string ⟨#[97]⟩)]) false [(false,[.slice 0])] <| fun p98 l99 l100 =>
 T.call Tryz.prog 16 [.agg #[.slice none 0 0,.slice none 0 0,.slice none 0 0,.slice p98 l99 l100]] false [(false,[.slice 9])] <| fun p101 l102 l103 =>
 cond ((l102:Int)==(0:Int))
 (T.call Tryz.prog 14 [] false [(false,[.bool])] <| fun b104 =>
 T.ret (.bool b104))
 (T.ret (.bool false)))
 (T.ret (.bool false)))
 (T.ret (.bool false)))
 (T.ret (.bool false)))
 (T.ret (.bool false)))
 (T.ret (.bool false)))
 (T.ret (.bool false)))
 (T.ret (.bool false)))
 (T.ret (.bool false)))
 (T.ret (.bool false)))
 (T.ret (.bool false)))
 (T.ret (.bool false))))))))
theorem t_spandrellaw9_UnitNumbers_eq :xfun Tryz.prog [] Tryz.f4 []=t_spandrellaw9_UnitNumbers :=by kernel_rfl
end Go.Sx
