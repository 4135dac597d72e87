/- Trees of functions, each checked by the kernel against the code. No condition. -/
import Derived.Test.YtgnhjkofpmchpaaGreatDoorSxF
import Derived.Test.YtgnhjkofpmchpaaGreatDoorProg
import Derived.KernelRfl
set_option linter.unusedVariables false
set_option linter.unusedSimpArgs false
set_option linter.deprecated false
set_option maxRecDepth 100000
namespace Go.Sx
open Go.Proofs
def t_spandrellaw8_read (s0:ByteArray) (n1:Int):T :=
 T.new [vI 0,.slice none 0 0,.string ⟨#[]⟩,.slice none 0 0,.int .u32 0,vI 0] 28 <| fun a2 =>
 T.new [vI 0,.slice none 0 0,.string ⟨#[]⟩,.slice none 0 0,.int .u32 0,vI 0] 30 <| fun a3 =>
 T.call Tryz.prog 12 [.string s0] true [(true,[.string,.string,.slice 42]),(false,[.int .i64]),(false,[.int .i64])] <| fun s4 s5 p6 l7 l8 n9 n10 =>
 T.new [.string ⟨#[]⟩,.string ⟨#[]⟩,.slice none 0 0] 39 <| fun a11 =>
 T.stores a11 [.string s4,.string s5,.slice p6 l7 l8] <|
 T.call Tryz.prog 23 [.string s0] true [(true,[.string,.string,.slice 98]),(false,[.int .i64]),(false,[.int .i64])] <| fun s12 s13 p14 l15 l16 n17 n18 =>
 T.new [.string ⟨#[]⟩,.string ⟨#[]⟩,.slice none 0 0] 69 <| fun a19 =>
 T.stores a19 [.string s12,.string s13,.slice p14 l15 l16] <|
 cond (n10 != (0:Int))
 (T.stores a2 [vI 0,.slice none 0 0,.string ⟨#[]⟩,.slice none 0 0,.int .u32 0,vI 0] <|
 T.stores a3 [vI 0,.slice none 0 0,.string ⟨#[]⟩,.slice none 0 0,.int .u32 0,vI 0] <|
 T.loads a2 yT <| fun n20 p21 l22 l23 s24 p25 l26 l27 n28 n29 =>
 T.loads a3 yT <| fun n30 p31 l32 l33 s34 p35 l36 l37 n38 n39 =>
 T.ret (.tuple #[.agg #[vI n20,.slice p21 l22 l23,.string s24,.slice p25 l26 l27,.int .u32 n28,vI n29],vI 0,.agg #[vI n30,.slice p31 l32 l33,.string s34,.slice p35 l36 l37,.int .u32 n38,vI n39],vI 0,.bool (n10==n18)]))
 (cond (n18 != (0:Int))
 (T.stores a2 [vI 0,.slice none 0 0,.string ⟨#[]⟩,.slice none 0 0,.int .u32 0,vI 0] <|
 T.stores a3 [vI 0,.slice none 0 0,.string ⟨#[]⟩,.slice none 0 0,.int .u32 0,vI 0] <|
 T.loads a2 yT <| fun n20 p21 l22 l23 s24 p25 l26 l27 n28 n29 =>
 T.loads a3 yT <| fun n30 p31 l32 l33 s34 p35 l36 l37 n38 n39 =>
 T.ret (.tuple #[.agg #[vI n20,.slice p21 l22 l23,.string s24,.slice p25 l26 l27,.int .u32 n28,vI n29],vI 0,.agg #[vI n30,.slice p31 l32 l33,.string s34,.slice p35 l36 l37,.int .u32 n38,vI n39],vI 0,.bool (n10==n18)]))
 (T.loads a11 [.string,.string,.slice 42] <| fun s20 s21 p22 l23 l24 =>
 T.call Tryz.prog 13 [.agg #[.string s20,.string s21,.slice p22 l23 l24],vI n1] true [(true,yT),(false,[.int .i64])] <| fun n25 p26 l27 l28 s29 p30 l31 l32 n33 n34 n35 =>
 T.new [vI 0,.slice none 0 0,.string ⟨#[]⟩,.slice none 0 0,.int .u32 0,vI 0] 28 <| fun a36 =>
 T.stores a36 [vI n25,.slice p26 l27 l28,.string s29,.slice p30 l31 l32,.int .u32 n33,vI n34] <|
 T.loads a19 [.string,.string,.slice 98] <| fun s37 s38 p39 l40 l41 =>
 T.call Tryz.prog 24 [.agg #[.string s37,.string s38,.slice p39 l40 l41],vI n1] true [(true,yT),(false,[.int .i64])] <| fun n42 p43 l44 l45 s46 p47 l48 l49 n50 n51 n52 =>
 T.new [vI 0,.slice none 0 0,.string ⟨#[]⟩,.slice none 0 0,.int .u32 0,vI 0] 30 <| fun a53 =>
 T.stores a53 [vI n42,.slice p43 l44 l45,.string s46,.slice p47 l48 l49,.int .u32 n50,vI n51] <|
 T.loads a36 yT <| fun n54 p55 l56 l57 s58 p59 l60 l61 n62 n63 =>
 T.loads a53 yT <| fun n64 p65 l66 l67 s68 p69 l70 l71 n72 n73 =>
 T.stores a2 [vI n54,.slice p55 l56 l57,.string s58,.slice p59 l60 l61,.int .u32 n62,vI n63] <|
 T.stable [(a53,[vI n64,.slice p65 l66 l67,.string s68,.slice p69 l70 l71,.int .u32 n72,vI n73])] <|
 T.stable [(a53,[vI n64,.slice p65 l66 l67,.string s68,.slice p69 l70 l71,.int .u32 n72,vI n73])] <|
 T.stores a3 [vI n64,.slice p65 l66 l67,.string s68,.slice p69 l70 l71,.int .u32 n72,vI n73] <|
 T.loads a2 yT <| fun n74 p75 l76 l77 s78 p79 l80 l81 n82 n83 =>
 T.loads a3 yT <| fun n84 p85 l86 l87 s88 p89 l90 l91 n92 n93 =>
 T.ret (.tuple #[.agg #[vI n74,.slice p75 l76 l77,.string s78,.slice p79 l80 l81,.int .u32 n82,vI n83],vI n35,.agg #[vI n84,.slice p85 l86 l87,.string s88,.slice p89 l90 l91,.int .u32 n92,vI n93],vI n52,.bool true])))
theorem t_spandrellaw8_read_eq (s0:ByteArray) (n1:Int):xfun Tryz.prog [] Tryz.f8 [.string s0,vI n1]=t_spandrellaw8_read s0 n1:=by kernel_rfl
def t_spandrellaw8_same (n0:Int) (pp01:Option Addr) (ll01 cc01:Nat) (s2_0:ByteArray) (pp03:Option Addr) (ll03 cc03:Nat) (n4_0:Int) (n5_0:Int) (n1:Int) (pp11:Option Addr) (ll11 cc11:Nat) (s2_1:ByteArray) (pp13:Option Addr) (ll13 cc13:Nat) (n4_1:Int) (n5_1:Int):T :=
 T.new [vI n0,.slice pp01 ll01 cc01,.string s2_0,.slice pp03 ll03 cc03,.int .u32 n4_0,vI n5_0] 28 <| fun a2 =>
 T.new [vI n1,.slice pp11 ll11 cc11,.string s2_1,.slice pp13 ll13 cc13,.int .u32 n4_1,vI n5_1] 30 <| fun a3 =>
 T.loads a2 [.int .i64] <| fun n4 =>
 T.loads a3 [.int .i64] <| fun n5 =>
 cond (n4==n5)
 (T.loads (a2.add 1) [.slice 54] <| fun p6 l7 l8 =>
 T.loads (a3.add 1) [.slice 54] <| fun p9 l10 l11 =>
 T.call Tryz.prog 25 [.slice p6 l7 l8,.slice p9 l10 l11] false [(false,[.bool])] <| fun b12 =>
 cond b12
 (T.loads (a2.add 2) [.string] <| fun s13 =>
 T.loads (a3.add 2) [.string] <| fun s14 =>
 cond ((ByteArray.toList s13)==(ByteArray.toList s14))
 (T.loads (a2.add 3) [.slice 50,.int .u32] <| fun p15 l16 l17 n18 =>
 T.loads (a3.add 3) [.slice 50,.int .u32] <| fun p19 l20 l21 n22 =>
 T.call Tryz.prog 26 [.agg #[.slice p15 l16 l17,.int .u32 n18],.agg #[.slice p19 l20 l21,.int .u32 n22]] false [(false,[.bool])] <| fun b23 =>
 cond b23
 (T.loads (a2.add 5) [.int .i64] <| fun n24 =>
 T.loads (a3.add 5) [.int .i64] <| fun n25 =>
 T.ret (.bool (n24==n25)))
 (T.ret (.bool false)))
 (T.ret (.bool false)))
 (T.ret (.bool false)))
 (T.ret (.bool false))
theorem t_spandrellaw8_same_eq (n0:Int) (pp01:Option Addr) (ll01 cc01:Nat) (s2_0:ByteArray) (pp03:Option Addr) (ll03 cc03:Nat) (n4_0:Int) (n5_0:Int) (n1:Int) (pp11:Option Addr) (ll11 cc11:Nat) (s2_1:ByteArray) (pp13:Option Addr) (ll13 cc13:Nat) (n4_1:Int) (n5_1:Int):xfun Tryz.prog [] Tryz.f10 [.agg #[vI n0,.slice pp01 ll01 cc01,.string s2_0,.slice pp03 ll03 cc03,.int .u32 n4_0,vI n5_0],.agg #[vI n1,.slice pp11 ll11 cc11,.string s2_1,.slice pp13 ll13 cc13,.int .u32 n4_1,vI n5_1]]=t_spandrellaw8_same n0 pp01 ll01 cc01 s2_0 pp03 ll03 cc03 n4_0 n5_0 n1 pp11 ll11 cc11 s2_1 pp13 ll13 cc13 n4_1 n5_1:=by kernel_rfl
def t_spandrellaw8_known :T :=
 T.call Tryz.prog 8 [.string ⟨#[97,100,100,32,114,49,44,32,114,50]⟩,vI 0] true [(true,yT),(false,[.int .i64]),(true,yT),(false,[.int .i64]),(false,[.bool])] <| fun n1 p2 l3 l4 s5 p6 l7 l8 n9 n10 n11 n12 p13 l14 l15 s16 p17 l18 l19 n20 n21 n22 b23 =>
 T.new [vI 0,.slice none 0 0,.string ⟨#[]⟩,.slice none 0 0,.int .u32 0,vI 0] 28 <| fun a24 =>
 T.new [vI 0,.slice none 0 0,.string ⟨#[]⟩,.slice none 0 0,.int .u32 0,vI 0] 30 <| fun a25 =>
 T.stores a24 [vI n1,.slice p2 l3 l4,.string s5,.slice p6 l7 l8,.int .u32 n9,vI n10] <|
 T.stores a25 [vI n12,.slice p13 l14 l15,.string s16,.slice p17 l18 l19,.int .u32 n20,vI n21] <|
 cond b23
 (cond (n11==(0:Int))
 (T.loads a24 [.int .i64] <| fun n26 =>
 cond (n26==(1:Int))
 (T.loads (a24.add 1) [.slice 54] <| fun p27 l28 l29 =>
 cond ((l28:Int)==(1:Int))
 (T.loads (a24.add 1) [.slice 54] <| fun p30 l31 l32 =>
 T.need (((0:Int)≤(0:Int))∧((0:Int)<(l31:Int))) <|
 T.osome p30 <| fun a33 =>
 T.loads (a33.add 2) [.int .i64,.int .i64,.int .i64,.int .i32,.int .i64] <| fun n34 n35 n36 n37 n38 =>
 T.sem Tryz.prog (Sx.cmpS (BinOp.eql) 52 (Operand.tmp 34) (Operand.tmp 35) (.agg #[vI n34,vI n35,vI n36,.int .i32 n37,vI n38]) (.agg #[vI 14,vI 1,vI 2,.int .i32 0,vI 0])) false [(false,[.bool])] <| fun b39 =>
 cond b39
 (T.call Tryz.prog 18 [.string ⟨#[97,100,100,32,114,49,44,32,114,50]⟩,vI 1,vI 21] false [(false,[.bool])] <| fun b40 =>
 cond b40
 (T.call Tryz.prog 18 [.string ⟨#[108,105,115,32,114,49,44,32,50,48,48]⟩,vI 0,vI 21] false [(false,[.bool])] <| fun b41 =>
 T.ret (.bool b41))
 (T.ret (.bool false)))
 (T.ret (.bool false)))
 (T.ret (.bool false)))
 (T.ret (.bool false)))
 (T.ret (.bool false)))
 (T.ret (.bool false))
theorem t_spandrellaw8_known_eq :xfun Tryz.prog [] Tryz.f11 []=t_spandrellaw8_known :=by kernel_rfl
def t_spandrellaw8_says (s0:ByteArray) (n1:Int) (n2:Int):T :=
 T.call Tryz.prog 8 [.string s0,vI n1] true [(true,yT),(false,[.int .i64]),(true,yT),(false,[.int .i64]),(false,[.bool])] <| fun n3 p4 l5 l6 s7 p8 l9 l10 n11 n12 n13 n14 p15 l16 l17 s18 p19 l20 l21 n22 n23 n24 b25 =>
 T.new [vI 0,.slice none 0 0,.string ⟨#[]⟩,.slice none 0 0,.int .u32 0,vI 0] 28 <| fun a26 =>
 T.new [vI 0,.slice none 0 0,.string ⟨#[]⟩,.slice none 0 0,.int .u32 0,vI 0] 30 <| fun a27 =>
 T.stores a26 [vI n3,.slice p4 l5 l6,.string s7,.slice p8 l9 l10,.int .u32 n11,vI n12] <|
 T.stores a27 [vI n14,.slice p15 l16 l17,.string s18,.slice p19 l20 l21,.int .u32 n22,vI n23] <|
 cond b25
 (cond (n13==n2)
 (cond (n24==n2)
 (T.loads a26 yT <| fun n28 p29 l30 l31 s32 p33 l34 l35 n36 n37 =>
 T.loads a27 yT <| fun n38 p39 l40 l41 s42 p43 l44 l45 n46 n47 =>
 T.call Tryz.prog 10 [.agg #[vI n28,.slice p29 l30 l31,.string s32,.slice p33 l34 l35,.int .u32 n36,vI n37],.agg #[vI n38,.slice p39 l40 l41,.string s42,.slice p43 l44 l45,.int .u32 n46,vI n47]] false [(false,[.bool])] <| fun b48 =>
 T.ret (.bool b48))
 (T.ret (.bool false)))
 (T.ret (.bool false)))
 (T.ret (.bool false))
theorem t_spandrellaw8_says_eq (s0:ByteArray) (n1:Int) (n2:Int):xfun Tryz.prog [] Tryz.f18 [.string s0,vI n1,vI n2]=t_spandrellaw8_says s0 n1 n2:=by kernel_rfl
def t_spandrellaw8_ItemRight (n0:Int) (s1_0:ByteArray) (n2_0:Int) (n3_0:Int) (n4_0:Int) (n5_0:Int) (n6_0:Int) (pp07:Option Addr) (ll07 cc07:Nat) (n8_0:Int) (n9_0:Int) (n1:Int):T :=
 T.new [vI n0,.string s1_0,vI n2_0,vI n3_0,vI n4_0,.int .i32 n5_0,vI n6_0,.slice pp07 ll07 cc07,.int .u32 n8_0,vI n9_0] 54 <| fun a2 =>
 T.loads a2 yI <| fun n3 s4 n5 n6 n7 n8 n9 p10 l11 l12 n13 n14 =>
 T.loads a2 yI <| fun n15 s16 n17 n18 n19 n20 n21 p22 l23 l24 n25 n26 =>
 T.call Tryz.prog 19 [.agg #[vI n3,.string s4,vI n5,vI n6,vI n7,.int .i32 n8,vI n9,.slice p10 l11 l12,.int .u32 n13,vI n14],vI n1] false [(false,[.int .i64])] <| fun n27 =>
 T.stable [(a2,[vI n15,.string s16,vI n17,vI n18,vI n19,.int .i32 n20,vI n21,.slice p22 l23 l24,.int .u32 n25,vI n26])] <|
 T.call Tryz.prog 20 [.agg #[vI n15,.string s16,vI n17,vI n18,vI n19,.int .i32 n20,vI n21,.slice p22 l23 l24,.int .u32 n25,vI n26],vI n1] false [(false,[.int .i64])] <| fun n28 =>
 T.stable [(a2,[vI n3,.string s4,vI n5,vI n6,vI n7,.int .i32 n8,vI n9,.slice p10 l11 l12,.int .u32 n13,vI n14])] <|
 cond (n27==n28)
 (T.call Tryz.prog 11 [] false [(false,[.bool])] <| fun b29 =>
 T.stable [(a2,[vI n15,.string s16,vI n17,vI n18,vI n19,.int .i32 n20,vI n21,.slice p22 l23 l24,.int .u32 n25,vI n26]),(a2,[vI n3,.string s4,vI n5,vI n6,vI n7,.int .i32 n8,vI n9,.slice p10 l11 l12,.int .u32 n13,vI n14])] <|
 T.ret (.bool b29))
 (T.ret (.bool false))
theorem t_spandrellaw8_ItemRight_eq (n0:Int) (s1_0:ByteArray) (n2_0:Int) (n3_0:Int) (n4_0:Int) (n5_0:Int) (n6_0:Int) (pp07:Option Addr) (ll07 cc07:Nat) (n8_0:Int) (n9_0:Int) (n1:Int):xfun Tryz.prog [] Tryz.f6 [.agg #[vI n0,.string s1_0,vI n2_0,vI n3_0,vI n4_0,.int .i32 n5_0,vI n6_0,.slice pp07 ll07 cc07,.int .u32 n8_0,vI n9_0],vI n1]=t_spandrellaw8_ItemRight n0 s1_0 n2_0 n3_0 n4_0 n5_0 n6_0 pp07 ll07 cc07 n8_0 n9_0 n1:=by kernel_rfl
end Go.Sx
