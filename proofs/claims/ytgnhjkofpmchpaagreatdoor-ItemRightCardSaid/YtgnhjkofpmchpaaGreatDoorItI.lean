/- Trees of functions, each checked by the kernel against the code. No condition. -/
import Derived.Test.YtgnhjkofpmchpaaGreatDoorSxF
import Derived.Test.YtgnhjkofpmchpaaGreatDoorProg
import Derived.KernelRfl
set_option linter.unusedVariables false
set_option linter.unusedSimpArgs false
set_option linter.deprecated false
set_option maxRecDepth 100000
namespace Go.Sx
open Go.Proofs
def t_spandrelref8_directive (s0:ByteArray) (pp10:Option Addr) (ll10 cc10:Nat):T :=
 T.new [vI 0,.slice none 0 0,.string ⟨#[]⟩,.slice none 0 0,.int .u32 0,vI 0] 30 <| fun a2 =>
 T.join [(false,[.int .i64])]
 (cond ((ByteArray.toList s0)==[({ toBitVec:=112#8 }),({ toBitVec:=111#8 }),({ toBitVec:=111#8 }),({ toBitVec:=108#8 })])
 (T.again 0 [vI 0])
 (cond ((ByteArray.toList s0)==[({ toBitVec:=101#8 }),({ toBitVec:=113#8 }),({ toBitVec:=117#8 })])
 (T.again 0 [vI 2])
 (cond ((ByteArray.toList s0)==[({ toBitVec:=98#8 }),({ toBitVec:=121#8 }),({ toBitVec:=116#8 }),({ toBitVec:=101#8 })])
 (cond ((ByteArray.toList s0)==[({ toBitVec:=98#8 }),({ toBitVec:=121#8 }),({ toBitVec:=116#8 }),({ toBitVec:=101#8 })])
 (cond ((ll10:Int)==(0:Int))
 (T.again 0 [vI 1])
 (T.again 0 [vI (ll10:Int)]))
 (cond ((ByteArray.toList s0)==[({ toBitVec:=97#8 }),({ toBitVec:=108#8 }),({ toBitVec:=105#8 }),({ toBitVec:=103#8 }),({ toBitVec:=110#8 })])
 (cond ((ByteArray.toList s0)==[({ toBitVec:=97#8 }),({ toBitVec:=108#8 }),({ toBitVec:=105#8 }),({ toBitVec:=103#8 }),({ toBitVec:=110#8 })])
 (T.again 0 [vI 1])
 (T.again 0 [vI (-1:Int)]))
 (cond ((ByteArray.toList s0)==[({ toBitVec:=115#8 }),({ toBitVec:=112#8 }),({ toBitVec:=97#8 }),({ toBitVec:=99#8 }),({ toBitVec:=101#8 })])
 (cond ((ByteArray.toList s0)==[({ toBitVec:=115#8 }),({ toBitVec:=112#8 }),({ toBitVec:=97#8 }),({ toBitVec:=99#8 }),({ toBitVec:=101#8 })])
 (T.again 0 [vI 1])
 (T.again 0 [vI (-1:Int)]))
 (cond ((ByteArray.toList s0)==[({ toBitVec:=103#8 }),({ toBitVec:=108#8 }),({ toBitVec:=111#8 }),({ toBitVec:=98#8 }),({ toBitVec:=97#8 }),({ toBitVec:=108#8 })])
 (cond ((ByteArray.toList s0)==[({ toBitVec:=103#8 }),({ toBitVec:=108#8 }),({ toBitVec:=111#8 }),({ toBitVec:=98#8 }),({ toBitVec:=97#8 }),({ toBitVec:=108#8 })])
 (T.again 0 [vI 1])
 (T.again 0 [vI (-1:Int)]))
 (cond ((ByteArray.toList s0)==[({ toBitVec:=115#8 }),({ toBitVec:=101#8 }),({ toBitVec:=99#8 }),({ toBitVec:=116#8 }),({ toBitVec:=105#8 }),({ toBitVec:=111#8 }),({ toBitVec:=110#8 })])
 (T.again 0 [vI 1])
 (T.again 0 [vI (-1:Int)]))))))
 (cond ((ByteArray.toList s0)==[({ toBitVec:=119#8 }),({ toBitVec:=111#8 }),({ toBitVec:=114#8 }),({ toBitVec:=100#8 })])
 (cond ((ll10:Int)==(0:Int))
 (T.again 0 [vI 1])
 (T.again 0 [vI (ll10:Int)]))
 (cond ((ByteArray.toList s0)==[({ toBitVec:=97#8 }),({ toBitVec:=108#8 }),({ toBitVec:=105#8 }),({ toBitVec:=103#8 }),({ toBitVec:=110#8 })])
 (cond ((ByteArray.toList s0)==[({ toBitVec:=97#8 }),({ toBitVec:=108#8 }),({ toBitVec:=105#8 }),({ toBitVec:=103#8 }),({ toBitVec:=110#8 })])
 (T.again 0 [vI 1])
 (T.again 0 [vI (-1:Int)]))
 (cond ((ByteArray.toList s0)==[({ toBitVec:=115#8 }),({ toBitVec:=112#8 }),({ toBitVec:=97#8 }),({ toBitVec:=99#8 }),({ toBitVec:=101#8 })])
 (cond ((ByteArray.toList s0)==[({ toBitVec:=115#8 }),({ toBitVec:=112#8 }),({ toBitVec:=97#8 }),({ toBitVec:=99#8 }),({ toBitVec:=101#8 })])
 (T.again 0 [vI 1])
 (T.again 0 [vI (-1:Int)]))
 (cond ((ByteArray.toList s0)==[({ toBitVec:=103#8 }),({ toBitVec:=108#8 }),({ toBitVec:=111#8 }),({ toBitVec:=98#8 }),({ toBitVec:=97#8 }),({ toBitVec:=108#8 })])
 (cond ((ByteArray.toList s0)==[({ toBitVec:=103#8 }),({ toBitVec:=108#8 }),({ toBitVec:=111#8 }),({ toBitVec:=98#8 }),({ toBitVec:=97#8 }),({ toBitVec:=108#8 })])
 (T.again 0 [vI 1])
 (T.again 0 [vI (-1:Int)]))
 (cond ((ByteArray.toList s0)==[({ toBitVec:=115#8 }),({ toBitVec:=101#8 }),({ toBitVec:=99#8 }),({ toBitVec:=116#8 }),({ toBitVec:=105#8 }),({ toBitVec:=111#8 }),({ toBitVec:=110#8 })])
 (T.again 0 [vI 1])
 (T.again 0 [vI (-1:Int)]))))))))) <| fun n3 =>
 cond ((ll10:Int) != n3)
 (T.stores a2 [vI 0,.slice none 0 0,.string ⟨#[]⟩,.slice none 0 0,.int .u32 0,vI 0] <|
 T.loads a2 yT <| fun n4 p5 l6 l7 s8 p9 l10 l11 n12 n13 =>
 T.ret (.tuple #[.agg #[vI n4,.slice p5 l6 l7,.string s8,.slice p9 l10 l11,.int .u32 n12,vI n13],vI 20]))
 (cond ((ByteArray.toList s0)==[({ toBitVec:=112#8 }),({ toBitVec:=111#8 }),({ toBitVec:=111#8 }),({ toBitVec:=108#8 })])
 (T.sem Tryz.prog (Instr.buildSlice 22 1 #[(0,.agg #[vI 4,.string ⟨#[]⟩,vI 0,vI 0,vI 0,.int .i32 0,vI 0,.slice none 0 0,.int .u32 0,vI 0])]) false [(false,[.slice 0])] <| fun p4 l5 l6 =>
 T.stores a2 [vI 1,.slice p4 l5 l6,.string ⟨#[]⟩,.slice none 0 0,.int .u32 0,vI 0] <|
 T.loads a2 yT <| fun n7 p8 l9 l10 s11 p12 l13 l14 n15 n16 =>
 T.ret (.tuple #[.agg #[vI n7,.slice p8 l9 l10,.string s11,.slice p12 l13 l14,.int .u32 n15,vI n16],vI 0]))
 (cond ((ByteArray.toList s0)==[({ toBitVec:=97#8 }),({ toBitVec:=108#8 }),({ toBitVec:=105#8 }),({ toBitVec:=103#8 }),({ toBitVec:=110#8 })])
 (T.need (((0:Int)≤(0:Int))∧((0:Int)<(ll10:Int))) <|
 T.osome pp10 <| fun a4 =>
 T.loads a4 [.slice 101] <| fun p5 l6 l7 =>
 T.call Tryz.prog 76 [.slice p5 l6 l7,vI 1,vI 256] true [(false,[.int .i64]),(false,[.int .i64])] <| fun n8 n9 =>
 cond (n9==(0:Int))
 (T.call Tryz.prog 45 [vI n8] false [(false,[.bool])] <| fun b10 =>
 cond (!b10)
 (T.stores a2 [vI 0,.slice none 0 0,.string ⟨#[]⟩,.slice none 0 0,.int .u32 0,vI 0] <|
 T.loads a2 yT <| fun n11 p12 l13 l14 s15 p16 l17 l18 n19 n20 =>
 T.ret (.tuple #[.agg #[vI n11,.slice p12 l13 l14,.string s15,.slice p16 l17 l18,.int .u32 n19,vI n20],vI 21]))
 (cond (n9 != (0:Int))
 (T.stores a2 [vI 0,.slice none 0 0,.string ⟨#[]⟩,.slice none 0 0,.int .u32 0,vI 0] <|
 T.loads a2 yT <| fun n11 p12 l13 l14 s15 p16 l17 l18 n19 n20 =>
 T.ret (.tuple #[.agg #[vI n11,.slice p12 l13 l14,.string s15,.slice p16 l17 l18,.int .u32 n19,vI n20],vI n9]))
 (T.sem Tryz.prog (Instr.buildSlice 22 1 #[(0,.agg #[vI 3,.string ⟨#[]⟩,vI 0,vI 0,vI 0,.int .i32 0,vI 0,.slice none 0 0,.int .u32 0,vI n8])]) false [(false,[.slice 0])] <| fun p11 l12 l13 =>
 T.stores a2 [vI 1,.slice p11 l12 l13,.string ⟨#[]⟩,.slice none 0 0,.int .u32 0,vI 0] <|
 T.loads a2 yT <| fun n14 p15 l16 l17 s18 p19 l20 l21 n22 n23 =>
 T.ret (.tuple #[.agg #[vI n14,.slice p15 l16 l17,.string s18,.slice p19 l20 l21,.int .u32 n22,vI n23],vI 0]))))
 (cond (n9 != (0:Int))
 (T.stores a2 [vI 0,.slice none 0 0,.string ⟨#[]⟩,.slice none 0 0,.int .u32 0,vI 0] <|
 T.loads a2 yT <| fun n10 p11 l12 l13 s14 p15 l16 l17 n18 n19 =>
 T.ret (.tuple #[.agg #[vI n10,.slice p11 l12 l13,.string s14,.slice p15 l16 l17,.int .u32 n18,vI n19],vI n9]))
 (T.sem Tryz.prog (Instr.buildSlice 22 1 #[(0,.agg #[vI 3,.string ⟨#[]⟩,vI 0,vI 0,vI 0,.int .i32 0,vI 0,.slice none 0 0,.int .u32 0,vI n8])]) false [(false,[.slice 0])] <| fun p10 l11 l12 =>
 T.stores a2 [vI 1,.slice p10 l11 l12,.string ⟨#[]⟩,.slice none 0 0,.int .u32 0,vI 0] <|
 T.loads a2 yT <| fun n13 p14 l15 l16 s17 p18 l19 l20 n21 n22 =>
 T.ret (.tuple #[.agg #[vI n13,.slice p14 l15 l16,.string s17,.slice p18 l19 l20,.int .u32 n21,vI n22],vI 0]))))
 (cond ((ByteArray.toList s0)==[({ toBitVec:=115#8 }),({ toBitVec:=112#8 }),({ toBitVec:=97#8 }),({ toBitVec:=99#8 }),({ toBitVec:=101#8 })])
 (T.need (((0:Int)≤(0:Int))∧((0:Int)<(ll10:Int))) <|
 T.osome pp10 <| fun a4 =>
 T.loads a4 [.slice 101] <| fun p5 l6 l7 =>
 T.call Tryz.prog 76 [.slice p5 l6 l7,vI 0,vI 1048576] true [(false,[.int .i64]),(false,[.int .i64])] <| fun n8 n9 =>
 cond (n9 != (0:Int))
 (T.stores a2 [vI 0,.slice none 0 0,.string ⟨#[]⟩,.slice none 0 0,.int .u32 0,vI 0] <|
 T.loads a2 yT <| fun n10 p11 l12 l13 s14 p15 l16 l17 n18 n19 =>
 T.ret (.tuple #[.agg #[vI n10,.slice p11 l12 l13,.string s14,.slice p15 l16 l17,.int .u32 n18,vI n19],vI n9]))
 (T.sem Tryz.prog (Instr.buildSlice 22 1 #[(0,.agg #[vI 7,.string ⟨#[]⟩,vI 0,vI 0,vI 0,.int .i32 0,vI 0,.slice none 0 0,.int .u32 0,vI n8])]) false [(false,[.slice 0])] <| fun p10 l11 l12 =>
 T.stores a2 [vI 1,.slice p10 l11 l12,.string ⟨#[]⟩,.slice none 0 0,.int .u32 0,vI 0] <|
 T.loads a2 yT <| fun n13 p14 l15 l16 s17 p18 l19 l20 n21 n22 =>
 T.ret (.tuple #[.agg #[vI n13,.slice p14 l15 l16,.string s17,.slice p18 l19 l20,.int .u32 n21,vI n22],vI 0])))
 (cond ((ByteArray.toList s0)==[({ toBitVec:=98#8 }),({ toBitVec:=121#8 }),({ toBitVec:=116#8 }),({ toBitVec:=101#8 })])
 (cond ((ByteArray.toList s0)==[({ toBitVec:=98#8 }),({ toBitVec:=121#8 }),({ toBitVec:=116#8 }),({ toBitVec:=101#8 })])
 (T.call Tryz.prog 78 [.string s0,.slice pp10 ll10 cc10] true [(true,yT),(false,[.int .i64])] <| fun n4 p5 l6 l7 s8 p9 l10 l11 n12 n13 n14 =>
 T.stores a2 [vI n4,.slice p5 l6 l7,.string s8,.slice p9 l10 l11,.int .u32 n12,vI n13] <|
 T.loads a2 yT <| fun n15 p16 l17 l18 s19 p20 l21 l22 n23 n24 =>
 T.ret (.tuple #[.agg #[vI n15,.slice p16 l17 l18,.string s19,.slice p20 l21 l22,.int .u32 n23,vI n24],vI n14]))
 (cond ((ByteArray.toList s0)==[({ toBitVec:=115#8 }),({ toBitVec:=101#8 }),({ toBitVec:=99#8 }),({ toBitVec:=116#8 }),({ toBitVec:=105#8 }),({ toBitVec:=111#8 }),({ toBitVec:=110#8 })])
 (T.need (((0:Int)≤(0:Int))∧((0:Int)<(ll10:Int))) <|
 T.osome pp10 <| fun a4 =>
 T.loads a4 [.slice 101] <| fun p5 l6 l7 =>
 cond ((l6:Int)==(1:Int))
 (T.need (((0:Int)≤(0:Int))∧((0:Int)<(ll10:Int))) <|
 T.osome pp10 <| fun a8 =>
 T.loads a8 [.slice 101] <| fun p9 l10 l11 =>
 T.need (((0:Int)≤(0:Int))∧((0:Int)<(l10:Int))) <|
 T.osome p9 <| fun a12 =>
 T.loads a12 [.int .i64] <| fun n13 =>
 cond (n13==(1:Int))
 (T.need (((0:Int)≤(0:Int))∧((0:Int)<(ll10:Int))) <|
 T.osome pp10 <| fun a14 =>
 T.loads a14 [.slice 101] <| fun p15 l16 l17 =>
 T.need (((0:Int)≤(0:Int))∧((0:Int)<(l16:Int))) <|
 T.osome p15 <| fun a18 =>
 T.loads (a18.add 1) [.string] <| fun s19 =>
 cond ((ByteArray.toList s19)==[({ toBitVec:=116#8 }),({ toBitVec:=101#8 }),({ toBitVec:=120#8 }),({ toBitVec:=116#8 })])
 (T.new [vI 0,.slice none 0 0,.string ⟨#[]⟩,.slice none 0 0,.int .u32 0,vI 0] 30 <| fun a20 =>
 T.stores a20 [vI 5,.slice none 0 0,.string ⟨#[]⟩,.slice none 0 0,.int .u32 0,vI 0] <|
 T.need (((0:Int)≤(0:Int))∧((0:Int)<(ll10:Int))) <|
 T.osome pp10 <| fun a21 =>
 T.loads a21 [.slice 101] <| fun p22 l23 l24 =>
 T.need (((0:Int)≤(0:Int))∧((0:Int)<(l23:Int))) <|
 T.osome p22 <| fun a25 =>
 T.loads (a25.add 1) [.string] <| fun s26 =>
 cond ((ByteArray.toList s26)==[({ toBitVec:=100#8 }),({ toBitVec:=97#8 }),({ toBitVec:=116#8 }),({ toBitVec:=97#8 })])
 (T.stores (a20.add 5) [vI 1] <|
 T.loads a20 yT <| fun n27 p28 l29 l30 s31 p32 l33 l34 n35 n36 =>
 T.stores a2 [vI n27,.slice p28 l29 l30,.string s31,.slice p32 l33 l34,.int .u32 n35,vI n36] <|
 T.loads a2 yT <| fun n37 p38 l39 l40 s41 p42 l43 l44 n45 n46 =>
 T.ret (.tuple #[.agg #[vI n37,.slice p38 l39 l40,.string s41,.slice p42 l43 l44,.int .u32 n45,vI n46],vI 0]))
 (T.loads a20 yT <| fun n27 p28 l29 l30 s31 p32 l33 l34 n35 n36 =>
 T.stores a2 [vI n27,.slice p28 l29 l30,.string s31,.slice p32 l33 l34,.int .u32 n35,vI n36] <|
 T.loads a2 yT <| fun n37 p38 l39 l40 s41 p42 l43 l44 n45 n46 =>
 T.ret (.tuple #[.agg #[vI n37,.slice p38 l39 l40,.string s41,.slice p42 l43 l44,.int .u32 n45,vI n46],vI 0])))
 (T.need (((0:Int)≤(0:Int))∧((0:Int)<(ll10:Int))) <|
 T.osome pp10 <| fun a20 =>
 T.loads a20 [.slice 101] <| fun p21 l22 l23 =>
 T.need (((0:Int)≤(0:Int))∧((0:Int)<(l22:Int))) <|
 T.osome p21 <| fun a24 =>
 T.loads (a24.add 1) [.string] <| fun s25 =>
 cond ((ByteArray.toList s25)==[({ toBitVec:=100#8 }),({ toBitVec:=97#8 }),({ toBitVec:=116#8 }),({ toBitVec:=97#8 })])
 (T.new [vI 0,.slice none 0 0,.string ⟨#[]⟩,.slice none 0 0,.int .u32 0,vI 0] 30 <| fun a26 =>
 T.stores a26 [vI 5,.slice none 0 0,.string ⟨#[]⟩,.slice none 0 0,.int .u32 0,vI 0] <|
 T.need (((0:Int)≤(0:Int))∧((0:Int)<(ll10:Int))) <|
 T.osome pp10 <| fun a27 =>
 T.loads a27 [.slice 101] <| fun p28 l29 l30 =>
 T.need (((0:Int)≤(0:Int))∧((0:Int)<(l29:Int))) <|
 T.osome p28 <| fun a31 =>
 T.loads (a31.add 1) [.string] <| fun s32 =>
 cond ((ByteArray.toList s32)==[({ toBitVec:=100#8 }),({ toBitVec:=97#8 }),({ toBitVec:=116#8 }),({ toBitVec:=97#8 })])
 (T.stores (a26.add 5) [vI 1] <|
 T.loads a26 yT <| fun n33 p34 l35 l36 s37 p38 l39 l40 n41 n42 =>
 T.stores a2 [vI n33,.slice p34 l35 l36,.string s37,.slice p38 l39 l40,.int .u32 n41,vI n42] <|
 T.loads a2 yT <| fun n43 p44 l45 l46 s47 p48 l49 l50 n51 n52 =>
 T.ret (.tuple #[.agg #[vI n43,.slice p44 l45 l46,.string s47,.slice p48 l49 l50,.int .u32 n51,vI n52],vI 0]))
 (T.loads a26 yT <| fun n33 p34 l35 l36 s37 p38 l39 l40 n41 n42 =>
 T.stores a2 [vI n33,.slice p34 l35 l36,.string s37,.slice p38 l39 l40,.int .u32 n41,vI n42] <|
 T.loads a2 yT <| fun n43 p44 l45 l46 s47 p48 l49 l50 n51 n52 =>
 T.ret (.tuple #[.agg #[vI n43,.slice p44 l45 l46,.string s47,.slice p48 l49 l50,.int .u32 n51,vI n52],vI 0])))
 (T.stores a2 [vI 0,.slice none 0 0,.string ⟨#[]⟩,.slice none 0 0,.int .u32 0,vI 0] <|
 T.loads a2 yT <| fun n26 p27 l28 l29 s30 p31 l32 l33 n34 n35 =>
 T.ret (.tuple #[.agg #[vI n26,.slice p27 l28 l29,.string s30,.slice p31 l32 l33,.int .u32 n34,vI n35],vI 20]))))
 (T.stores a2 [vI 0,.slice none 0 0,.string ⟨#[]⟩,.slice none 0 0,.int .u32 0,vI 0] <|
 T.loads a2 yT <| fun n14 p15 l16 l17 s18 p19 l20 l21 n22 n23 =>
 T.ret (.tuple #[.agg #[vI n14,.slice p15 l16 l17,.string s18,.slice p19 l20 l21,.int .u32 n22,vI n23],vI 20])))
 (T.stores a2 [vI 0,.slice none 0 0,.string ⟨#[]⟩,.slice none 0 0,.int .u32 0,vI 0] <|
 T.loads a2 yT <| fun n8 p9 l10 l11 s12 p13 l14 l15 n16 n17 =>
 T.ret (.tuple #[.agg #[vI n8,.slice p9 l10 l11,.string s12,.slice p13 l14 l15,.int .u32 n16,vI n17],vI 20])))
 (T.need (((0:Int)≤(0:Int))∧((0:Int)<(ll10:Int))) <|
 T.osome pp10 <| fun a4 =>
 T.loads a4 [.slice 101] <| fun p5 l6 l7 =>
 T.call Tryz.prog 79 [.slice p5 l6 l7] true [(false,[.string]),(false,[.int .i64])] <| fun s8 n9 =>
 cond (n9 != (0:Int))
 (T.stores a2 [vI 0,.slice none 0 0,.string ⟨#[]⟩,.slice none 0 0,.int .u32 0,vI 0] <|
 T.loads a2 yT <| fun n10 p11 l12 l13 s14 p15 l16 l17 n18 n19 =>
 T.ret (.tuple #[.agg #[vI n10,.slice p11 l12 l13,.string s14,.slice p15 l16 l17,.int .u32 n18,vI n19],vI n9]))
 (cond ((ByteArray.toList s0)==[({ toBitVec:=103#8 }),({ toBitVec:=108#8 }),({ toBitVec:=111#8 }),({ toBitVec:=98#8 }),({ toBitVec:=97#8 }),({ toBitVec:=108#8 })])
 (T.stores a2 [vI 4,.slice none 0 0,.string s8,.slice none 0 0,.int .u32 0,vI 0] <|
 T.loads a2 yT <| fun n10 p11 l12 l13 s14 p15 l16 l17 n18 n19 =>
 T.ret (.tuple #[.agg #[vI n10,.slice p11 l12 l13,.string s14,.slice p15 l16 l17,.int .u32 n18,vI n19],vI 0]))
 (T.need (((0:Int)≤(1:Int))∧((1:Int)<(ll10:Int))) <|
 T.osome pp10 <| fun a10 =>
 T.loads (a10.add 1) [.slice 101] <| fun p11 l12 l13 =>
 T.call Tryz.prog 77 [.slice p11 l12 l13] true [(true,[.slice 50,.int .u32]),(false,[.int .i64])] <| fun p14 l15 l16 n17 n18 =>
 T.new [.slice none 0 0,.int .u32 0] 26 <| fun a19 =>
 T.stores a19 [.slice p14 l15 l16,.int .u32 n17] <|
 cond (n18 != (0:Int))
 (T.stores a2 [vI 0,.slice none 0 0,.string ⟨#[]⟩,.slice none 0 0,.int .u32 0,vI 0] <|
 T.loads a2 yT <| fun n20 p21 l22 l23 s24 p25 l26 l27 n28 n29 =>
 T.ret (.tuple #[.agg #[vI n20,.slice p21 l22 l23,.string s24,.slice p25 l26 l27,.int .u32 n28,vI n29],vI n18]))
 (T.loads a19 [.slice 50,.int .u32] <| fun p20 l21 l22 n23 =>
 T.stores a2 [vI 3,.slice none 0 0,.string s8,.slice p20 l21 l22,.int .u32 n23,vI 0] <|
 T.loads a2 yT <| fun n24 p25 l26 l27 s28 p29 l30 l31 n32 n33 =>
 T.ret (.tuple #[.agg #[vI n24,.slice p25 l26 l27,.string s28,.slice p29 l30 l31,.int .u32 n32,vI n33],vI 0])))))))
 (cond ((ByteArray.toList s0)==[({ toBitVec:=119#8 }),({ toBitVec:=111#8 }),({ toBitVec:=114#8 }),({ toBitVec:=100#8 })])
 (T.call Tryz.prog 78 [.string s0,.slice pp10 ll10 cc10] true [(true,yT),(false,[.int .i64])] <| fun n4 p5 l6 l7 s8 p9 l10 l11 n12 n13 n14 =>
 T.stores a2 [vI n4,.slice p5 l6 l7,.string s8,.slice p9 l10 l11,.int .u32 n12,vI n13] <|
 T.loads a2 yT <| fun n15 p16 l17 l18 s19 p20 l21 l22 n23 n24 =>
 T.ret (.tuple #[.agg #[vI n15,.slice p16 l17 l18,.string s19,.slice p20 l21 l22,.int .u32 n23,vI n24],vI n14]))
 (cond ((ByteArray.toList s0)==[({ toBitVec:=115#8 }),({ toBitVec:=101#8 }),({ toBitVec:=99#8 }),({ toBitVec:=116#8 }),({ toBitVec:=105#8 }),({ toBitVec:=111#8 }),({ toBitVec:=110#8 })])
 (T.need (((0:Int)≤(0:Int))∧((0:Int)<(ll10:Int))) <|
 T.osome pp10 <| fun a4 =>
 T.loads a4 [.slice 101] <| fun p5 l6 l7 =>
 cond ((l6:Int)==(1:Int))
 (T.need (((0:Int)≤(0:Int))∧((0:Int)<(ll10:Int))) <|
 T.osome pp10 <| fun a8 =>
 T.loads a8 [.slice 101] <| fun p9 l10 l11 =>
 T.need (((0:Int)≤(0:Int))∧((0:Int)<(l10:Int))) <|
 T.osome p9 <| fun a12 =>
 T.loads a12 [.int .i64] <| fun n13 =>
 cond (n13==(1:Int))
 (T.need (((0:Int)≤(0:Int))∧((0:Int)<(ll10:Int))) <|
 T.osome pp10 <| fun a14 =>
 T.loads a14 [.slice 101] <| fun p15 l16 l17 =>
 T.need (((0:Int)≤(0:Int))∧((0:Int)<(l16:Int))) <|
 T.osome p15 <| fun a18 =>
 T.loads (a18.add 1) [.string] <| fun s19 =>
 cond ((ByteArray.toList s19)==[({ toBitVec:=116#8 }),({ toBitVec:=101#8 }),({ toBitVec:=120#8 }),({ toBitVec:=116#8 })])
 (T.new [vI 0,.slice none 0 0,.string ⟨#[]⟩,.slice none 0 0,.int .u32 0,vI 0] 30 <| fun a20 =>
 T.stores a20 [vI 5,.slice none 0 0,.string ⟨#[]⟩,.slice none 0 0,.int .u32 0,vI 0] <|
 T.need (((0:Int)≤(0:Int))∧((0:Int)<(ll10:Int))) <|
 T.osome pp10 <| fun a21 =>
 T.loads a21 [.slice 101] <| fun p22 l23 l24 =>
 T.need (((0:Int)≤(0:Int))∧((0:Int)<(l23:Int))) <|
 T.osome p22 <| fun a25 =>
 T.loads (a25.add 1) [.string] <| fun s26 =>
 cond ((ByteArray.toList s26)==[({ toBitVec:=100#8 }),({ toBitVec:=97#8 }),({ toBitVec:=116#8 }),({ toBitVec:=97#8 })])
 (T.stores (a20.add 5) [vI 1] <|
 T.loads a20 yT <| fun n27 p28 l29 l30 s31 p32 l33 l34 n35 n36 =>
 T.stores a2 [vI n27,.slice p28 l29 l30,.string s31,.slice p32 l33 l34,.int .u32 n35,vI n36] <|
 T.loads a2 yT <| fun n37 p38 l39 l40 s41 p42 l43 l44 n45 n46 =>
 T.ret (.tuple #[.agg #[vI n37,.slice p38 l39 l40,.string s41,.slice p42 l43 l44,.int .u32 n45,vI n46],vI 0]))
 (T.loads a20 yT <| fun n27 p28 l29 l30 s31 p32 l33 l34 n35 n36 =>
 T.stores a2 [vI n27,.slice p28 l29 l30,.string s31,.slice p32 l33 l34,.int .u32 n35,vI n36] <|
 T.loads a2 yT <| fun n37 p38 l39 l40 s41 p42 l43 l44 n45 n46 =>
 T.ret (.tuple #[.agg #[vI n37,.slice p38 l39 l40,.string s41,.slice p42 l43 l44,.int .u32 n45,vI n46],vI 0])))
 (T.need (((0:Int)≤(0:Int))∧((0:Int)<(ll10:Int))) <|
 T.osome pp10 <| fun a20 =>
 T.loads a20 [.slice 101] <| fun p21 l22 l23 =>
 T.need (((0:Int)≤(0:Int))∧((0:Int)<(l22:Int))) <|
 T.osome p21 <| fun a24 =>
 T.loads (a24.add 1) [.string] <| fun s25 =>
 cond ((ByteArray.toList s25)==[({ toBitVec:=100#8 }),({ toBitVec:=97#8 }),({ toBitVec:=116#8 }),({ toBitVec:=97#8 })])
 (T.new [vI 0,.slice none 0 0,.string ⟨#[]⟩,.slice none 0 0,.int .u32 0,vI 0] 30 <| fun a26 =>
 T.stores a26 [vI 5,.slice none 0 0,.string ⟨#[]⟩,.slice none 0 0,.int .u32 0,vI 0] <|
 T.need (((0:Int)≤(0:Int))∧((0:Int)<(ll10:Int))) <|
 T.osome pp10 <| fun a27 =>
 T.loads a27 [.slice 101] <| fun p28 l29 l30 =>
 T.need (((0:Int)≤(0:Int))∧((0:Int)<(l29:Int))) <|
 T.osome p28 <| fun a31 =>
 T.loads (a31.add 1) [.string] <| fun s32 =>
 cond ((ByteArray.toList s32)==[({ toBitVec:=100#8 }),({ toBitVec:=97#8 }),({ toBitVec:=116#8 }),({ toBitVec:=97#8 })])
 (T.stores (a26.add 5) [vI 1] <|
 T.loads a26 yT <| fun n33 p34 l35 l36 s37 p38 l39 l40 n41 n42 =>
 T.stores a2 [vI n33,.slice p34 l35 l36,.string s37,.slice p38 l39 l40,.int .u32 n41,vI n42] <|
 T.loads a2 yT <| fun n43 p44 l45 l46 s47 p48 l49 l50 n51 n52 =>
 T.ret (.tuple #[.agg #[vI n43,.slice p44 l45 l46,.string s47,.slice p48 l49 l50,.int .u32 n51,vI n52],vI 0]))
 (T.loads a26 yT <| fun n33 p34 l35 l36 s37 p38 l39 l40 n41 n42 =>
 T.stores a2 [vI n33,.slice p34 l35 l36,.string s37,.slice p38 l39 l40,.int .u32 n41,vI n42] <|
 T.loads a2 yT <| fun n43 p44 l45 l46 s47 p48 l49 l50 n51 n52 =>
 T.ret (.tuple #[.agg #[vI n43,.slice p44 l45 l46,.string s47,.slice p48 l49 l50,.int .u32 n51,vI n52],vI 0])))
 (T.stores a2 [vI 0,.slice none 0 0,.string ⟨#[]⟩,.slice none 0 0,.int .u32 0,vI 0] <|
 T.loads a2 yT <| fun n26 p27 l28 l29 s30 p31 l32 l33 n34 n35 =>
 T.ret (.tuple #[.agg #[vI n26,.slice p27 l28 l29,.string s30,.slice p31 l32 l33,.int .u32 n34,vI n35],vI 20]))))
 (T.stores a2 [vI 0,.slice none 0 0,.string ⟨#[]⟩,.slice none 0 0,.int .u32 0,vI 0] <|
 T.loads a2 yT <| fun n14 p15 l16 l17 s18 p19 l20 l21 n22 n23 =>
 T.ret (.tuple #[.agg #[vI n14,.slice p15 l16 l17,.string s18,.slice p19 l20 l21,.int .u32 n22,vI n23],vI 20])))
 (T.stores a2 [vI 0,.slice none 0 0,.string ⟨#[]⟩,.slice none 0 0,.int .u32 0,vI 0] <|
 T.loads a2 yT <| fun n8 p9 l10 l11 s12 p13 l14 l15 n16 n17 =>
 T.ret (.tuple #[.agg #[vI n8,.slice p9 l10 l11,.string s12,.slice p13 l14 l15,.int .u32 n16,vI n17],vI 20])))
 (T.need (((0:Int)≤(0:Int))∧((0:Int)<(ll10:Int))) <|
 T.osome pp10 <| fun a4 =>
 T.loads a4 [.slice 101] <| fun p5 l6 l7 =>
 T.call Tryz.prog 79 [.slice p5 l6 l7] true [(false,[.string]),(false,[.int .i64])] <| fun s8 n9 =>
 cond (n9 != (0:Int))
 (T.stores a2 [vI 0,.slice none 0 0,.string ⟨#[]⟩,.slice none 0 0,.int .u32 0,vI 0] <|
 T.loads a2 yT <| fun n10 p11 l12 l13 s14 p15 l16 l17 n18 n19 =>
 T.ret (.tuple #[.agg #[vI n10,.slice p11 l12 l13,.string s14,.slice p15 l16 l17,.int .u32 n18,vI n19],vI n9]))
 (cond ((ByteArray.toList s0)==[({ toBitVec:=103#8 }),({ toBitVec:=108#8 }),({ toBitVec:=111#8 }),({ toBitVec:=98#8 }),({ toBitVec:=97#8 }),({ toBitVec:=108#8 })])
 (T.stores a2 [vI 4,.slice none 0 0,.string s8,.slice none 0 0,.int .u32 0,vI 0] <|
 T.loads a2 yT <| fun n10 p11 l12 l13 s14 p15 l16 l17 n18 n19 =>
 T.ret (.tuple #[.agg #[vI n10,.slice p11 l12 l13,.string s14,.slice p15 l16 l17,.int .u32 n18,vI n19],vI 0]))
 (T.need (((0:Int)≤(1:Int))∧((1:Int)<(ll10:Int))) <|
 T.osome pp10 <| fun a10 =>
 T.loads (a10.add 1) [.slice 101] <| fun p11 l12 l13 =>
 T.call Tryz.prog 77 [.slice p11 l12 l13] true [(true,[.slice 50,.int .u32]),(false,[.int .i64])] <| fun p14 l15 l16 n17 n18 =>
 T.new [.slice none 0 0,.int .u32 0] 26 <| fun a19 =>
 T.stores a19 [.slice p14 l15 l16,.int .u32 n17] <|
 cond (n18 != (0:Int))
 (T.stores a2 [vI 0,.slice none 0 0,.string ⟨#[]⟩,.slice none 0 0,.int .u32 0,vI 0] <|
 T.loads a2 yT <| fun n20 p21 l22 l23 s24 p25 l26 l27 n28 n29 =>
 T.ret (.tuple #[.agg #[vI n20,.slice p21 l22 l23,.string s24,.slice p25 l26 l27,.int .u32 n28,vI n29],vI n18]))
 (T.loads a19 [.slice 50,.int .u32] <| fun p20 l21 l22 n23 =>
 T.stores a2 [vI 3,.slice none 0 0,.string s8,.slice p20 l21 l22,.int .u32 n23,vI 0] <|
 T.loads a2 yT <| fun n24 p25 l26 l27 s28 p29 l30 l31 n32 n33 =>
 T.ret (.tuple #[.agg #[vI n24,.slice p25 l26 l27,.string s28,.slice p29 l30 l31,.int .u32 n32,vI n33],vI 0])))))))))))
theorem t_spandrelref8_directive_eq (s0:ByteArray) (pp10:Option Addr) (ll10 cc10:Nat):xfun Tryz.prog [1017] Tryz.f52 [.string s0,.slice pp10 ll10 cc10]=t_spandrelref8_directive s0 pp10 ll10 cc10:=by kernel_rfl
end Go.Sx
