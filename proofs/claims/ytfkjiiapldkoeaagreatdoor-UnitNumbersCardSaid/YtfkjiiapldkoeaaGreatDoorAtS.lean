/- Trees of functions, each checked by the kernel against the code. No condition. -/
import Derived.Test.YtfkjiiapldkoeaaGreatDoorSxP
import Derived.Test.YtfkjiiapldkoeaaGreatDoorProg
import Derived.KernelRfl
set_option linter.unusedVariables false
set_option linter.unusedSimpArgs false
set_option linter.deprecated false
set_option maxRecDepth 100000
namespace Go.Sx
open Go.Proofs
def t_unit_Assemble_rest (u:Nat) (e:Nat) (v:Nat):T :=
 T.sem Tryz.prog (Instr.makeMap 70 none) false [(false,[.map 0 0])] <| fun r1 =>
 T.loads (⟨v,0,none⟩:Addr) [.pointer 73] <| fun p2 =>
 T.osome p2 <| fun a3 =>
 T.loads (a3.add 7) [.slice 76] <| fun p4 l5 l6 =>
 T.loop [(false,[.int .i64])] [vI 0] <| fun n7 =>
 cond (decide (n7<(l5:Int)))
 (T.need (((0:Int)≤n7)∧(n7<(l5:Int))) <|
 T.osome p4 <| fun a8 =>
 T.loads (a8.add ((Int.toNat n7)*2)) [.string,.int .i64] <| fun s9 n10 =>
 T.new [.string ⟨#[]⟩,vI 0] 76 <| fun a11 =>
 T.stores a11 [.string s9,vI n10] <|
 T.loads (⟨v,0,none⟩:Addr) [.pointer 73] <| fun p12 =>
 T.osome p12 <| fun a13 =>
 T.loads (a13.add 6) [.map 9 4] <| fun r14 =>
 T.loads a11 [.string] <| fun s15 =>
 T.sem Tryz.prog (Instr.lookup 70 (.map r14) (.string s15) false) false [(false,[.bool])] <| fun b16 =>
 T.stable [((⟨v,0,none⟩:Addr),[.pointer p12])] <|
 cond (!b16)
 (T.loads (a11.add 1) [.int .i64] <| fun n17 =>
 T.all [ (T.new [vI n17,vI 23] 63 <| fun a18 =>
 T.stable [((a11.add 1),[vI n17])] <|
 T.stores (⟨u,0,none⟩:Addr) [.slice none 0 0,.slice none 0 0,.slice none 0 0,.slice none 0 0] <|
 T.stable [((a11.add 1),[vI n17])] <|
 T.stores (⟨e,0,none⟩:Addr) [.iface 59 (.pointer (some a18))] <|
 T.loads (⟨u,0,none⟩:Addr) [.slice 96,.slice 96,.slice 99,.slice 9] <| fun p19 l20 l21 p22 l23 l24 p25 l26 l27 p28 l29 l30 =>
 T.loads (⟨e, 0, none⟩ : Addr) [.interface #[("Error", 85)]] <| fun (v31 : Value) =>
 T.ret (.tuple #[.agg #[.slice p19 l20 l21,.slice p22 l23 l24,.slice p25 l26 l27,.slice p28 l29 l30],v31])),
 (T.stores (⟨u,0,none⟩:Addr) [.slice none 0 0,.slice none 0 0,.slice none 0 0,.slice none 0 0] <|
 T.stable [((a11.add 1),[vI n17])] <|
 T.new [vI n17,vI 23] 63 <| fun a18 =>
 T.stable [((a11.add 1),[vI n17])] <|
 T.stores (⟨e,0,none⟩:Addr) [.iface 59 (.pointer (some a18))] <|
 T.loads (⟨u,0,none⟩:Addr) [.slice 96,.slice 96,.slice 99,.slice 9] <| fun p19 l20 l21 p22 l23 l24 p25 l26 l27 p28 l29 l30 =>
 T.loads (⟨e, 0, none⟩ : Addr) [.interface #[("Error", 85)]] <| fun (v31 : Value) =>
 T.ret (.tuple #[.agg #[.slice p19 l20 l21,.slice p22 l23 l24,.slice p25 l26 l27,.slice p28 l29 l30],v31]))])
 (T.loads a11 [.string] <| fun s17 =>
 T.semU Tryz.prog (Instr.mapUpdate 70 (.map r1) (.string s17) (.bool true)) <|
 T.again 0 [vI (IntKind.wrap .i64 (n7+(1:Int)))]))
 (T.loads (⟨v,0,none⟩:Addr) [.pointer 73] <| fun p8 =>
 T.call Tryz.prog 35 [.map r1] false [(false,[.func #[39] #[] false])] <| fun (v9:Value) =>
 T.stable [((⟨v,0,none⟩:Addr),[.pointer p8])] <|
 T.call Tryz.prog 34 [v9] false [(false,[.slice 9])] <| fun p10 l11 l12 =>
 T.stable [((⟨v,0,none⟩:Addr),[.pointer p8])] <|
 T.osome p8 <| fun a13 =>
 T.stores (a13.add 3) [.slice p10 l11 l12] <|
 T.loads (⟨v,0,none⟩:Addr) [.pointer 73] <| fun p14 =>
 T.osome p14 <| fun a15 =>
 T.loads a15 [.slice 96,.slice 96,.slice 99,.slice 9] <| fun p16 l17 l18 p19 l20 l21 p22 l23 l24 p25 l26 l27 =>
 T.stores (⟨u,0,none⟩:Addr) [.slice p16 l17 l18,.slice p19 l20 l21,.slice p22 l23 l24,.slice p25 l26 l27] <|
 T.stores (⟨e,0,none⟩:Addr) [.nilIface] <|
 T.loads (⟨u,0,none⟩:Addr) [.slice 96,.slice 96,.slice 99,.slice 9] <| fun p28 l29 l30 p31 l32 l33 p34 l35 l36 p37 l38 l39 =>
 T.loads (⟨e, 0, none⟩ : Addr) [.interface #[("Error", 85)]] <| fun (v40 : Value) =>
 T.ret (.tuple #[.agg #[.slice p28 l29 l30,.slice p31 l32 l33,.slice p34 l35 l36,.slice p37 l38 l39],v40]))
theorem t_unit_Assemble_rest_eq (u:Nat) (e:Nat) (v:Nat):xrest Tryz.prog [] Tryz.f10 (tailOf 7 Tryz.f10) [(2,some (.pointer (some (⟨u,0,none⟩:Addr)))),(3,some (.pointer (some (⟨e,0,none⟩:Addr)))),(5,some (.pointer (some (⟨v,0,none⟩:Addr))))]=t_unit_Assemble_rest u e v:=by kernel_rfl
end Go.Sx
