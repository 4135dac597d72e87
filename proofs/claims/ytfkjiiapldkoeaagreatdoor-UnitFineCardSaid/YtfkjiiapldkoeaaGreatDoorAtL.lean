/- Trees of functions, each checked by the kernel against the code. No condition. -/
import Derived.Test.YtfkjiiapldkoeaaGreatDoorSxF
import Derived.Test.YtfkjiiapldkoeaaGreatDoorProg
import Derived.KernelRfl
set_option linter.unusedVariables false
set_option linter.unusedSimpArgs false
set_option linter.deprecated false
set_option maxRecDepth 100000
namespace Go.Sx
open Go.Proofs
def fF (a:Option Addr) (b:Int) (c:ByteArray):T :=
 T.call Tryz.prog 64 [.string c] true [(true,[.string,.string,.slice 174]),(false,[.int .i64]),(false,[.int .i64])] fun d e f g h i j =>
 T.new [.string ⟨#[]⟩,.string ⟨#[]⟩,.slice none 0 0] 130 fun k =>
 T.ap k [.string d,.string e,.slice f g h] <|
 cond (j != (0:Int))
 (T.ret (vI j))
 (T.join [(false,[.bool])]
 (T.ae k [.string] fun l =>
 cond (!((ByteArray.toList l)==[]))
 (T.ae k [.string] fun m =>
 T.call Tryz.prog 45 [.string m] false [(false,[.bool])] fun n =>
 T.again 0 [.bool (!n)])
 (T.again 0 [.bool false])) fun l =>
 cond l
 (T.ret (vI 21))
 (T.ae k [.string,.string,.slice 174] fun m n o p q =>
 T.au a fun r =>
 T.ae (r.add 4) [.int .i64] fun s =>
 T.all [ (T.call Tryz.prog 65 [.agg #[.string m,.string n,.slice o p q],vI s] true [(true,yT),(false,[.int .i64])] fun t u v w x y z A B C D =>
 T.new [vI 0,.slice none 0 0,.string ⟨#[]⟩,.slice none 0 0,.int .u32 0,vI 0] 134 fun E =>
 T.aR [((r.add 4),[vI s]),(k,[.string m,.string n,.slice o p q])] <|
 T.ap E [vI t,.slice u v w,.string x,.slice y z A,.int .u32 B,vI C] <|
 cond (D != (0:Int))
 (T.ret (vI D))
 (T.join [(false,[.string])]
 (T.ae E [.int .i64] fun F =>
 cond (F==(3:Int))
 (T.ae (E.add 2) [.string] fun G =>
 T.again 0 [.string G])
 (T.again 0 [.string ⟨#[]⟩])) fun F =>
 T.join [(false,[.bool])]
 (T.ae k [.string] fun G =>
 cond (!((ByteArray.toList G)==[]))
 (T.au a fun H =>
 T.ae (H.add 6) [.map 9 4] fun I =>
 T.ae k [.string] fun J =>
 T.aY Tryz.prog (Instr.lookup 70 (.map I) (.string J) false) false [(false,[.bool])] fun K =>
 T.aR [(k,[.string G])] <|
 cond K
 (T.again 0 [.bool true])
 (T.ae k [.string] fun L =>
 cond ((ByteArray.toList L)==(ByteArray.toList F))
 (T.again 0 [.bool true])
 (T.au a fun M =>
 T.ae (M.add 6) [.map 9 4] fun N =>
 T.aY Tryz.prog (Instr.lookup 70 (.map N) (.string F) false) false [(false,[.bool])] fun O =>
 T.aR [(k,[.string L]),(k,[.string J]),((H.add 6),[.map I]),(k,[.string G])] <|
 T.again 0 [.bool O])))
 (T.au a fun H =>
 T.ae (H.add 6) [.map 9 4] fun I =>
 T.aY Tryz.prog (Instr.lookup 70 (.map I) (.string F) false) false [(false,[.bool])] fun J =>
 T.aR [(k,[.string G])] <|
 T.again 0 [.bool J])) fun G =>
 cond G
 (T.ret (vI 22))
 (T.ae (E.add 1) [.slice 96] fun H I J =>
 T.join [(false,[.int .i64])]
 (T.ae k [.string] fun K =>
 cond (!((ByteArray.toList K)==[]))
 (T.again 0 [vI (IntKind.wrap .i64 ((I:Int)+(1:Int)))])
 (T.again 0 [vI (I:Int)])) fun K =>
 T.au a fun L =>
 T.ae (L.add 5) [.int .i64] fun M =>
 cond (decide ((IntKind.wrap .i64 (M+K))>(8192:Int)))
 (T.ret (vI 4))
 (T.join []
 (T.ae k [.string] fun N =>
 cond (!((ByteArray.toList N)==[]))
 (T.au a fun O =>
 T.ae (O.add 6) [.map 9 4] fun P =>
 T.ae k [.string] fun Q =>
 T.mC Tryz.prog (Instr.mapUpdate 70 (.map P) (.string Q) (.bool true)) <|
 T.au a fun R =>
 T.ae (R.add 4) [.int .i64] fun S =>
 T.ae k [.string] fun U =>
 T.aY Tryz.prog (Instr.buildSlice 23 1 #[(0,.agg #[vI 1,.string U,vI 0,vI 0,vI 0,.int .i32 0,vI 0,.slice none 0 0,.int .u32 0,vI 0])]) false [(false,[.slice 0])] fun V W X =>
 T.aR [(k,[.string U]),((R.add 4),[vI S])] <|
 T.call Tryz.prog 66 [.pointer a,vI S,.slice V W X] true [] <| T.aR [(k,[.string U])] <|
 T.again 0 [])
 (T.again 0 [])) <| T.au a fun N =>
 T.ae (N.add 4) [.int .i64] fun O =>
 T.ae (E.add 1) [.slice 96] fun P Q R =>
 T.call Tryz.prog 66 [.pointer a,vI O,.slice P Q R] true [] <| T.join []
 (T.ae E [.int .i64] fun S =>
 cond (S==(3:Int))
 (T.au a fun U =>
 T.ae (U.add 6) [.map 9 4] fun V =>
 T.mC Tryz.prog (Instr.mapUpdate 70 (.map V) (.string F) (.bool true)) <|
 T.au a fun W =>
 T.ae (W.add 2) [.slice 99] fun X Y Z =>
 T.ae (E.add 2) [.string] fun a0 =>
 T.ae (E.add 3) [.slice 109,.int .u32] fun a1 a2 a3 a4 =>
 T.aY Tryz.prog (Instr.buildSlice 24 1 #[(0,.agg #[.string a0,.slice a1 a2 a3,.int .u32 a4])]) false [(false,[.slice 0])] fun a5 a6 a7 =>
 T.aR [((E.add 3),[.slice a1 a2 a3,.int .u32 a4]),((E.add 2),[.string a0]),((W.add 2),[.slice X Y Z])] <|
 T.aY Tryz.prog (Builtin.append_ #[24,24] 24 #[.slice X Y Z,.slice a5 a6 a7]) false [(false,[.slice 0])] fun a8 a9 b0 =>
 T.aR [((E.add 3),[.slice a1 a2 a3,.int .u32 a4]),((E.add 2),[.string a0])] <|
 T.au a fun b1 =>
 T.ap (b1.add 2) [.slice a8 a9 b0] <|
 T.again 0 [])
 (cond (S==(4:Int))
 (T.au a fun U =>
 T.ae (U.add 7) [.slice 76] fun V W X =>
 T.ae (E.add 2) [.string] fun Y =>
 T.aY Tryz.prog (Instr.buildSlice 71 1 #[(0,.agg #[.string Y,vI b])]) false [(false,[.slice 0])] fun Z a0 a1 =>
 T.aR [((E.add 2),[.string Y]),((U.add 7),[.slice V W X])] <|
 T.aY Tryz.prog (Builtin.append_ #[71,71] 71 #[.slice V W X,.slice Z a0 a1]) false [(false,[.slice 0])] fun a2 a3 a4 =>
 T.aR [((E.add 2),[.string Y])] <|
 T.au a fun a5 =>
 T.ap (a5.add 7) [.slice a2 a3 a4] <|
 T.again 0 [])
 (cond (S==(5:Int))
 (T.ae (E.add 5) [.int .i64] fun U =>
 T.au a fun V =>
 T.ap (V.add 4) [vI U] <|
 T.again 0 [])
 (T.again 0 [])))) <| T.ret (vI 0))))),
 (T.new [vI 0,.slice none 0 0,.string ⟨#[]⟩,.slice none 0 0,.int .u32 0,vI 0] 134 fun t =>
 T.aR [((r.add 4),[vI s]),(k,[.string m,.string n,.slice o p q])] <|
 T.call Tryz.prog 65 [.agg #[.string m,.string n,.slice o p q],vI s] true [(true,yT),(false,[.int .i64])] fun u v w x y z A B C D E =>
 T.ap t [vI u,.slice v w x,.string y,.slice z A B,.int .u32 C,vI D] <|
 cond (E != (0:Int))
 (T.ret (vI E))
 (T.join [(false,[.string])]
 (T.ae t [.int .i64] fun F =>
 cond (F==(3:Int))
 (T.ae (t.add 2) [.string] fun G =>
 T.again 0 [.string G])
 (T.again 0 [.string ⟨#[]⟩])) fun F =>
 T.join [(false,[.bool])]
 (T.ae k [.string] fun G =>
 cond (!((ByteArray.toList G)==[]))
 (T.au a fun H =>
 T.ae (H.add 6) [.map 9 4] fun I =>
 T.ae k [.string] fun J =>
 T.aY Tryz.prog (Instr.lookup 70 (.map I) (.string J) false) false [(false,[.bool])] fun K =>
 T.aR [(k,[.string G])] <|
 cond K
 (T.again 0 [.bool true])
 (T.ae k [.string] fun L =>
 cond ((ByteArray.toList L)==(ByteArray.toList F))
 (T.again 0 [.bool true])
 (T.au a fun M =>
 T.ae (M.add 6) [.map 9 4] fun N =>
 T.aY Tryz.prog (Instr.lookup 70 (.map N) (.string F) false) false [(false,[.bool])] fun O =>
 T.aR [(k,[.string L]),(k,[.string J]),((H.add 6),[.map I]),(k,[.string G])] <|
 T.again 0 [.bool O])))
 (T.au a fun H =>
 T.ae (H.add 6) [.map 9 4] fun I =>
 T.aY Tryz.prog (Instr.lookup 70 (.map I) (.string F) false) false [(false,[.bool])] fun J =>
 T.aR [(k,[.string G])] <|
 T.again 0 [.bool J])) fun G =>
 cond G
 (T.ret (vI 22))
 (T.ae (t.add 1) [.slice 96] fun H I J =>
 T.join [(false,[.int .i64])]
 (T.ae k [.string] fun K =>
 cond (!((ByteArray.toList K)==[]))
 (T.again 0 [vI (IntKind.wrap .i64 ((I:Int)+(1:Int)))])
 (T.again 0 [vI (I:Int)])) fun K =>
 T.au a fun L =>
 T.ae (L.add 5) [.int .i64] fun M =>
 cond (decide ((IntKind.wrap .i64 (M+K))>(8192:Int)))
 (T.ret (vI 4))
 (T.join []
 (T.ae k [.string] fun N =>
 cond (!((ByteArray.toList N)==[]))
 (T.au a fun O =>
 T.ae (O.add 6) [.map 9 4] fun P =>
 T.ae k [.string] fun Q =>
 T.mC Tryz.prog (Instr.mapUpdate 70 (.map P) (.string Q) (.bool true)) <|
 T.au a fun R =>
 T.ae (R.add 4) [.int .i64] fun S =>
 T.ae k [.string] fun U =>
 T.aY Tryz.prog (Instr.buildSlice 23 1 #[(0,.agg #[vI 1,.string U,vI 0,vI 0,vI 0,.int .i32 0,vI 0,.slice none 0 0,.int .u32 0,vI 0])]) false [(false,[.slice 0])] fun V W X =>
 T.aR [(k,[.string U]),((R.add 4),[vI S])] <|
 T.call Tryz.prog 66 [.pointer a,vI S,.slice V W X] true [] <| T.aR [(k,[.string U])] <|
 T.again 0 [])
 (T.again 0 [])) <| T.au a fun N =>
 T.ae (N.add 4) [.int .i64] fun O =>
 T.ae (t.add 1) [.slice 96] fun P Q R =>
 T.call Tryz.prog 66 [.pointer a,vI O,.slice P Q R] true [] <| T.join []
 (T.ae t [.int .i64] fun S =>
 cond (S==(3:Int))
 (T.au a fun U =>
 T.ae (U.add 6) [.map 9 4] fun V =>
 T.mC Tryz.prog (Instr.mapUpdate 70 (.map V) (.string F) (.bool true)) <|
 T.au a fun W =>
 T.ae (W.add 2) [.slice 99] fun X Y Z =>
 T.ae (t.add 2) [.string] fun a0 =>
 T.ae (t.add 3) [.slice 109,.int .u32] fun a1 a2 a3 a4 =>
 T.aY Tryz.prog (Instr.buildSlice 24 1 #[(0,.agg #[.string a0,.slice a1 a2 a3,.int .u32 a4])]) false [(false,[.slice 0])] fun a5 a6 a7 =>
 T.aR [((t.add 3),[.slice a1 a2 a3,.int .u32 a4]),((t.add 2),[.string a0]),((W.add 2),[.slice X Y Z])] <|
 T.aY Tryz.prog (Builtin.append_ #[24,24] 24 #[.slice X Y Z,.slice a5 a6 a7]) false [(false,[.slice 0])] fun a8 a9 b0 =>
 T.aR [((t.add 3),[.slice a1 a2 a3,.int .u32 a4]),((t.add 2),[.string a0])] <|
 T.au a fun b1 =>
 T.ap (b1.add 2) [.slice a8 a9 b0] <|
 T.again 0 [])
 (cond (S==(4:Int))
 (T.au a fun U =>
 T.ae (U.add 7) [.slice 76] fun V W X =>
 T.ae (t.add 2) [.string] fun Y =>
 T.aY Tryz.prog (Instr.buildSlice 71 1 #[(0,.agg #[.string Y,vI b])]) false [(false,[.slice 0])] fun Z a0 a1 =>
 T.aR [((t.add 2),[.string Y]),((U.add 7),[.slice V W X])] <|
 T.aY Tryz.prog (Builtin.append_ #[71,71] 71 #[.slice V W X,.slice Z a0 a1]) false [(false,[.slice 0])] fun a2 a3 a4 =>
 T.aR [((t.add 2),[.string Y])] <|
 T.au a fun a5 =>
 T.ap (a5.add 7) [.slice a2 a3 a4] <|
 T.again 0 [])
 (cond (S==(5:Int))
 (T.ae (t.add 5) [.int .i64] fun U =>
 T.au a fun V =>
 T.ap (V.add 4) [vI U] <|
 T.again 0 [])
 (T.again 0 [])))) <| T.ret (vI 0)))))]))
theorem jH (a:Option Addr) (b:Int) (c:ByteArray):aX Tryz.prog [4,1012,12,1017,1022,1031] Tryz.f33 [.pointer a,vI b,.string c]=fF a b c:=by kernel_rfl
def gr (a:Option Addr) (b:Int) (c:Option Addr) (d e:Nat):T :=
 cond (b==(1:Int))
 (T.au a fun f =>
 T.ae (f.add 1) [.slice 96] fun g h i =>
 T.aY Tryz.prog (Builtin.append_ #[23,23] 23 #[.slice g h i,.slice c d e]) false [(false,[.slice 0])] fun j k l =>
 T.au a fun m =>
 T.ap (m.add 1) [.slice j k l] <|
 T.au a fun n =>
 T.ae (n.add 5) [.int .i64] fun o =>
 T.au a fun p =>
 T.ap (p.add 5) [vI (IntKind.wrap .i64 (o+(d:Int)))] <|
 T.ret (.tuple #[]))
 (T.au a fun f =>
 T.ae f [.slice 96] fun g h i =>
 T.aY Tryz.prog (Builtin.append_ #[23,23] 23 #[.slice g h i,.slice c d e]) false [(false,[.slice 0])] fun j k l =>
 T.au a fun m =>
 T.ap m [.slice j k l] <|
 T.au a fun n =>
 T.ae (n.add 5) [.int .i64] fun o =>
 T.au a fun p =>
 T.ap (p.add 5) [vI (IntKind.wrap .i64 (o+(d:Int)))] <|
 T.ret (.tuple #[]))
theorem j9 (a:Option Addr) (b:Int) (c:Option Addr) (d e:Nat):aX Tryz.prog [] Tryz.f66 [.pointer a,vI b,.slice c d e]=gr a b c d e:=by kernel_rfl
end Go.Sx
