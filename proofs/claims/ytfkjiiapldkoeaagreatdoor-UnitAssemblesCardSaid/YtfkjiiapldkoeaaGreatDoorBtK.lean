/- Trees of functions. No condition. -/
import Derived.Test.YtfkjiiapldkoeaaGreatDoorSxP
import Derived.Test.YtfkjiiapldkoeaaGreatDoorProg
import Derived.KernelRfl
set_option linter.all false
set_option maxRecDepth 100000
set_option maxHeartbeats 4000000
namespace Go.Sx
open Go.Proofs
def ic (a:Option XC) (b:Int) (c:XA):T :=
 aS 64 [.string c] true [(true,[.string,.string,.slice 174]),aQ,aQ] fun d e f g h i j =>
 T.new [bh,bh,aI] 130 fun k =>
 T.ak k [.string d,.string e,.slice f g h] <|
 cond (j != (0:Int))
 (T.ret (vI j))
 (T.join [bZ]
 (T.ah k [.string] fun l =>
 cond (!((ByteArray.toList l)==[]))
 (T.ah k [.string] fun m =>
 aN 45 [.string m] fun n =>
 T.again 0 [.bool (!n)])
 (T.again 0 [.bool false])) fun l =>
 cond l
 (T.ret (vI 21))
 (T.ah k [.string,.string,.slice 174] fun m n o p q =>
 T.aA a fun r =>
 T.ah (r.add 4) [.int .i64] fun s =>
 T.all [ (aS 65 [.agg #[.string m,.string n,.slice o p q],vI s] true [(true,[.int .i64,.slice 96,.string,.slice 109,.int .u32,.int .i64]),aQ] fun t u v w x y z A B C D =>
 T.new [vI 0,aI,bh,aI,av 0,vI 0] 134 fun E =>
 T.aT [((r.add 4),[vI s]),(k,[.string m,.string n,.slice o p q])] <|
 T.ak E [vI t,.slice u v w,.string x,.slice y z A,av B,vI C] <|
 cond (D != (0:Int))
 (T.ret (vI D))
 (T.join [(false,[.string])]
 (T.ah E [.int .i64] fun F =>
 cond (F==(3:Int))
 (T.ah (E.add 2) [.string] fun G =>
 T.again 0 [.string G])
 (T.again 0 [bh])) fun F =>
 T.join [bZ]
 (T.ah k [.string] fun G =>
 cond (!((ByteArray.toList G)==[]))
 (T.aA a fun H =>
 T.ah (H.add 6) [.map 9 4] fun I =>
 T.ah k [.string] fun J =>
 bR (Instr.lookup 70 (.map I) (.string J) false) fun K =>
 T.aT [(k,[.string G])] <|
 cond K
 (T.again 0 [.bool true])
 (T.ah k [.string] fun L =>
 cond ((ByteArray.toList L)==(ByteArray.toList F))
 (T.again 0 [.bool true])
 (T.aA a fun M =>
 T.ah (M.add 6) [.map 9 4] fun N =>
 bR (Instr.lookup 70 (.map N) (.string F) false) fun O =>
 T.aT [(k,[.string L]),(k,[.string J]),((H.add 6),[.map I]),(k,[.string G])] <|
 T.again 0 [.bool O])))
 (T.aA a fun H =>
 T.ah (H.add 6) [.map 9 4] fun I =>
 bR (Instr.lookup 70 (.map I) (.string F) false) fun J =>
 T.aT [(k,[.string G])] <|
 T.again 0 [.bool J])) fun G =>
 cond G
 (T.ret (vI 22))
 (T.ah (E.add 1) [.slice 96] fun H I J =>
 T.join [aQ]
 (T.ah k [.string] fun K =>
 cond (!((ByteArray.toList K)==[]))
 (T.again 0 [vI (aH ((I:Int)+(1:Int)))])
 (T.again 0 [vI (I:Int)])) fun K =>
 T.aA a fun L =>
 T.ah (L.add 5) [.int .i64] fun M =>
 cond (decide ((aH (M+K))>(8192:Int)))
 (T.ret (vI 4))
 (T.join []
 (T.ah k [.string] fun N =>
 cond (!((ByteArray.toList N)==[]))
 (T.aA a fun O =>
 T.ah (O.add 6) [.map 9 4] fun P =>
 T.ah k [.string] fun Q =>
 T.pB Tryz.prog (Instr.mapUpdate 70 (.map P) (.string Q) (.bool true)) <|
 T.aA a fun R =>
 T.ah (R.add 4) [.int .i64] fun S =>
 T.ah k [.string] fun U =>
 aR (Instr.buildSlice 23 1 #[(0,.agg #[vI 1,.string U,vI 0,vI 0,vI 0,.int .i32 0,vI 0,aI,av 0,vI 0])]) fun V W X =>
 T.aT [(k,[.string U]),((R.add 4),[vI S])] <|
 aS 66 [.pointer a,vI S,.slice V W X] true [] <| T.aT [(k,[.string U])] <|
 T.again 0 [])
 (T.again 0 [])) <| T.aA a fun N =>
 T.ah (N.add 4) [.int .i64] fun O =>
 T.ah (E.add 1) [.slice 96] fun P Q R =>
 aS 66 [.pointer a,vI O,.slice P Q R] true [] <| T.join []
 (T.ah E [.int .i64] fun S =>
 cond (S==(3:Int))
 (T.aA a fun U =>
 T.ah (U.add 6) [.map 9 4] fun V =>
 T.pB Tryz.prog (Instr.mapUpdate 70 (.map V) (.string F) (.bool true)) <|
 T.aA a fun W =>
 T.ah (W.add 2) [.slice 99] fun X Y Z =>
 T.ah (E.add 2) [.string] fun a0 =>
 T.ah (E.add 3) (yL 109) fun a1 a2 a3 a4 =>
 aR (Instr.buildSlice 24 1 #[(0,.agg #[.string a0,.slice a1 a2 a3,av a4])]) fun a5 a6 a7 =>
 T.aT [((E.add 3),[.slice a1 a2 a3,av a4]),((E.add 2),[.string a0]),((W.add 2),[.slice X Y Z])] <|
 aR (Builtin.append_ #[24,24] 24 #[.slice X Y Z,.slice a5 a6 a7]) fun a8 a9 b0 =>
 T.aT [((E.add 3),[.slice a1 a2 a3,av a4]),((E.add 2),[.string a0])] <|
 T.aA a fun b1 =>
 T.ak (b1.add 2) [.slice a8 a9 b0] <|
 T.again 0 [])
 (cond (S==(4:Int))
 (T.aA a fun U =>
 T.ah (U.add 7) [.slice 76] fun V W X =>
 T.ah (E.add 2) [.string] fun Y =>
 aR (Instr.buildSlice 71 1 #[(0,.agg #[.string Y,vI b])]) fun Z a0 a1 =>
 T.aT [((E.add 2),[.string Y]),((U.add 7),[.slice V W X])] <|
 aR (Builtin.append_ #[71,71] 71 #[.slice V W X,.slice Z a0 a1]) fun a2 a3 a4 =>
 T.aT [((E.add 2),[.string Y])] <|
 T.aA a fun a5 =>
 T.ak (a5.add 7) [.slice a2 a3 a4] <|
 T.again 0 [])
 (cond (S==(5:Int))
 (T.ah (E.add 5) [.int .i64] fun U =>
 T.aA a fun V =>
 T.ak (V.add 4) [vI U] <|
 T.again 0 [])
 (T.again 0 [])))) <| T.ret (vI 0))))),
 (T.new [vI 0,aI,bh,aI,av 0,vI 0] 134 fun t =>
 T.aT [((r.add 4),[vI s]),(k,[.string m,.string n,.slice o p q])] <|
 aS 65 [.agg #[.string m,.string n,.slice o p q],vI s] true [(true,[.int .i64,.slice 96,.string,.slice 109,.int .u32,.int .i64]),aQ] fun u v w x y z A B C D E =>
 T.ak t [vI u,.slice v w x,.string y,.slice z A B,av C,vI D] <|
 cond (E != (0:Int))
 (T.ret (vI E))
 (T.join [(false,[.string])]
 (T.ah t [.int .i64] fun F =>
 cond (F==(3:Int))
 (T.ah (t.add 2) [.string] fun G =>
 T.again 0 [.string G])
 (T.again 0 [bh])) fun F =>
 T.join [bZ]
 (T.ah k [.string] fun G =>
 cond (!((ByteArray.toList G)==[]))
 (T.aA a fun H =>
 T.ah (H.add 6) [.map 9 4] fun I =>
 T.ah k [.string] fun J =>
 bR (Instr.lookup 70 (.map I) (.string J) false) fun K =>
 T.aT [(k,[.string G])] <|
 cond K
 (T.again 0 [.bool true])
 (T.ah k [.string] fun L =>
 cond ((ByteArray.toList L)==(ByteArray.toList F))
 (T.again 0 [.bool true])
 (T.aA a fun M =>
 T.ah (M.add 6) [.map 9 4] fun N =>
 bR (Instr.lookup 70 (.map N) (.string F) false) fun O =>
 T.aT [(k,[.string L]),(k,[.string J]),((H.add 6),[.map I]),(k,[.string G])] <|
 T.again 0 [.bool O])))
 (T.aA a fun H =>
 T.ah (H.add 6) [.map 9 4] fun I =>
 bR (Instr.lookup 70 (.map I) (.string F) false) fun J =>
 T.aT [(k,[.string G])] <|
 T.again 0 [.bool J])) fun G =>
 cond G
 (T.ret (vI 22))
 (T.ah (t.add 1) [.slice 96] fun H I J =>
 T.join [aQ]
 (T.ah k [.string] fun K =>
 cond (!((ByteArray.toList K)==[]))
 (T.again 0 [vI (aH ((I:Int)+(1:Int)))])
 (T.again 0 [vI (I:Int)])) fun K =>
 T.aA a fun L =>
 T.ah (L.add 5) [.int .i64] fun M =>
 cond (decide ((aH (M+K))>(8192:Int)))
 (T.ret (vI 4))
 (T.join []
 (T.ah k [.string] fun N =>
 cond (!((ByteArray.toList N)==[]))
 (T.aA a fun O =>
 T.ah (O.add 6) [.map 9 4] fun P =>
 T.ah k [.string] fun Q =>
 T.pB Tryz.prog (Instr.mapUpdate 70 (.map P) (.string Q) (.bool true)) <|
 T.aA a fun R =>
 T.ah (R.add 4) [.int .i64] fun S =>
 T.ah k [.string] fun U =>
 aR (Instr.buildSlice 23 1 #[(0,.agg #[vI 1,.string U,vI 0,vI 0,vI 0,.int .i32 0,vI 0,aI,av 0,vI 0])]) fun V W X =>
 T.aT [(k,[.string U]),((R.add 4),[vI S])] <|
 aS 66 [.pointer a,vI S,.slice V W X] true [] <| T.aT [(k,[.string U])] <|
 T.again 0 [])
 (T.again 0 [])) <| T.aA a fun N =>
 T.ah (N.add 4) [.int .i64] fun O =>
 T.ah (t.add 1) [.slice 96] fun P Q R =>
 aS 66 [.pointer a,vI O,.slice P Q R] true [] <| T.join []
 (T.ah t [.int .i64] fun S =>
 cond (S==(3:Int))
 (T.aA a fun U =>
 T.ah (U.add 6) [.map 9 4] fun V =>
 T.pB Tryz.prog (Instr.mapUpdate 70 (.map V) (.string F) (.bool true)) <|
 T.aA a fun W =>
 T.ah (W.add 2) [.slice 99] fun X Y Z =>
 T.ah (t.add 2) [.string] fun a0 =>
 T.ah (t.add 3) (yL 109) fun a1 a2 a3 a4 =>
 aR (Instr.buildSlice 24 1 #[(0,.agg #[.string a0,.slice a1 a2 a3,av a4])]) fun a5 a6 a7 =>
 T.aT [((t.add 3),[.slice a1 a2 a3,av a4]),((t.add 2),[.string a0]),((W.add 2),[.slice X Y Z])] <|
 aR (Builtin.append_ #[24,24] 24 #[.slice X Y Z,.slice a5 a6 a7]) fun a8 a9 b0 =>
 T.aT [((t.add 3),[.slice a1 a2 a3,av a4]),((t.add 2),[.string a0])] <|
 T.aA a fun b1 =>
 T.ak (b1.add 2) [.slice a8 a9 b0] <|
 T.again 0 [])
 (cond (S==(4:Int))
 (T.aA a fun U =>
 T.ah (U.add 7) [.slice 76] fun V W X =>
 T.ah (t.add 2) [.string] fun Y =>
 aR (Instr.buildSlice 71 1 #[(0,.agg #[.string Y,vI b])]) fun Z a0 a1 =>
 T.aT [((t.add 2),[.string Y]),((U.add 7),[.slice V W X])] <|
 aR (Builtin.append_ #[71,71] 71 #[.slice V W X,.slice Z a0 a1]) fun a2 a3 a4 =>
 T.aT [((t.add 2),[.string Y])] <|
 T.aA a fun a5 =>
 T.ak (a5.add 7) [.slice a2 a3 a4] <|
 T.again 0 [])
 (cond (S==(5:Int))
 (T.ah (t.add 5) [.int .i64] fun U =>
 T.aA a fun V =>
 T.ak (V.add 4) [vI U] <|
 T.again 0 [])
 (T.again 0 [])))) <| T.ret (vI 0)))))]))
def lG (a:Option XC) (b:Int) (c:XA):bD Tryz.prog [4,1012,12,1017,1022,1031] Tryz.f33 [.pointer a,vI b,.string c]=ic a b c:=aB
def iF (a:Option XC) (b:Int) (c:Option XC) (d e:Nat):T :=
 cond (b==(1:Int))
 (T.aA a fun f =>
 T.ah (f.add 1) [.slice 96] fun g h i =>
 aR (Builtin.append_ #[23,23] 23 #[.slice g h i,.slice c d e]) fun j k l =>
 T.aA a fun m =>
 T.ak (m.add 1) [.slice j k l] <|
 T.aA a fun n =>
 T.ah (n.add 5) [.int .i64] fun o =>
 T.aA a fun p =>
 T.ak (p.add 5) [vI (aH (o+(d:Int)))] <|
 aw #[])
 (T.aA a fun f =>
 T.ah f [.slice 96] fun g h i =>
 aR (Builtin.append_ #[23,23] 23 #[.slice g h i,.slice c d e]) fun j k l =>
 T.aA a fun m =>
 T.ak m [.slice j k l] <|
 T.aA a fun n =>
 T.ah (n.add 5) [.int .i64] fun o =>
 T.aA a fun p =>
 T.ak (p.add 5) [vI (aH (o+(d:Int)))] <|
 aw #[])
def lT (a:Option XC) (b:Int) (c:Option XC) (d e:Nat):bD Tryz.prog [] Tryz.f66 [.pointer a,vI b,.slice c d e]=iF a b c d e:=aB
def fD (a:Option XC) (b:Int) (c:XA):T :=
 aS 102 [.string c] true [(true,[.string,.string,.slice 233]),aQ,aQ] fun d e f g h i j =>
 T.new [bh,bh,aI] 191 fun k =>
 T.ak k [.string d,.string e,.slice f g h] <|
 cond (j != (0:Int))
 (T.ret (vI j))
 (T.join [bZ]
 (T.ah k [.string] fun l =>
 cond (!((ByteArray.toList l)==[]))
 (T.ah k [.string] fun m =>
 aN 48 [.string m] fun n =>
 T.again 0 [.bool (!n)])
 (T.again 0 [.bool false])) fun l =>
 cond l
 (T.ret (vI 21))
 (T.ah k [.string,.string,.slice 233] fun m n o p q =>
 T.aA a fun r =>
 T.ah (r.add 4) [.int .i64] fun s =>
 T.all [ (aS 103 [.agg #[.string m,.string n,.slice o p q],vI s] true [(true,[.int .i64,.slice 96,.string,.slice 109,.int .u32,.int .i64]),aQ] fun t u v w x y z A B C D =>
 T.new [vI 0,aI,bh,aI,av 0,vI 0] 194 fun E =>
 T.aT [((r.add 4),[vI s]),(k,[.string m,.string n,.slice o p q])] <|
 T.ak E [vI t,.slice u v w,.string x,.slice y z A,av B,vI C] <|
 cond (D != (0:Int))
 (T.ret (vI D))
 (T.join [bZ]
 (T.ah k [.string] fun F =>
 cond (!((ByteArray.toList F)==[]))
 (T.aA a fun G =>
 T.ah (G.add 5) [.slice 9] fun H I J =>
 T.ah k [.string] fun K =>
 aN 50 [.slice H I J,.string K] fun L =>
 T.aT [(k,[.string F])] <|
 cond L
 (T.again 0 [.bool true])
 (T.ah E [.int .i64] fun M =>
 cond (M==(3:Int))
 (T.aA a fun N =>
 T.ah (N.add 5) [.slice 9] fun O P Q =>
 T.ah (E.add 2) [.string] fun R =>
 aN 50 [.slice O P Q,.string R] fun S =>
 T.aT [(E,[vI M]),(k,[.string K]),((G.add 5),[.slice H I J]),(k,[.string F])] <|
 cond S
 (T.again 0 [.bool true])
 (T.ah (E.add 2) [.string] fun U =>
 T.ah k [.string] fun V =>
 T.again 0 [.bool ((ByteArray.toList U)==(ByteArray.toList V))]))
 (T.again 0 [.bool false])))
 (T.ah E [.int .i64] fun G =>
 cond (G==(3:Int))
 (T.aA a fun H =>
 T.ah (H.add 5) [.slice 9] fun I J K =>
 T.ah (E.add 2) [.string] fun L =>
 aN 50 [.slice I J K,.string L] fun M =>
 T.aT [(E,[vI G]),(k,[.string F])] <|
 cond M
 (T.again 0 [.bool true])
 (T.ah (E.add 2) [.string] fun N =>
 T.ah k [.string] fun O =>
 T.again 0 [.bool ((ByteArray.toList N)==(ByteArray.toList O))]))
 (T.again 0 [.bool false]))) fun F =>
 cond F
 (T.ret (vI 22))
 (aR (Instr.buildSlice 23 0 #[]) fun G H I =>
 T.ah (E.add 1) [.slice 96] fun J K L =>
 aR (Builtin.append_ #[23,23] 23 #[.slice G H I,.slice J K L]) fun M N O =>
 T.join [gK]
 (T.ah k [.string] fun P =>
 cond (!((ByteArray.toList P)==[]))
 (T.ah k [.string] fun Q =>
 aR (Instr.buildSlice 23 1 #[(0,.agg #[vI 1,.string Q,vI 0,vI 0,vI 0,.int .i32 0,vI 0,aI,av 0,vI 0])]) fun R S U =>
 aR (Builtin.append_ #[23,23] 23 #[.slice R S U,.slice M N O]) fun V W X =>
 T.again 0 [.slice V W X])
 (T.again 0 [.slice M N O])) fun P Q R =>
 T.aA a fun S =>
 T.ah S [.slice 96] fun U V W =>
 T.aA a fun X =>
 T.ah (X.add 1) [.slice 96] fun Y Z a0 =>
 cond (decide ((aH ((aH ((V:Int)+(Z:Int)))+(Q:Int)))>(8192:Int)))
 (T.ret (vI 4))
 (T.join []
 (T.aA a fun a1 =>
 T.ah (a1.add 4) [.int .i64] fun a2 =>
 cond (a2==(0:Int))
 (T.aA a fun a3 =>
 T.ah a3 [.slice 96] fun a4 a5 a6 =>
 aR (Builtin.append_ #[23,23] 23 #[.slice a4 a5 a6,.slice P Q R]) fun a7 a8 a9 =>
 T.aA a fun b0 =>
 T.ak b0 [.slice a7 a8 a9] <|
 T.again 0 [])
 (T.aA a fun a3 =>
 T.ah (a3.add 1) [.slice 96] fun a4 a5 a6 =>
 aR (Builtin.append_ #[23,23] 23 #[.slice a4 a5 a6,.slice P Q R]) fun a7 a8 a9 =>
 T.aA a fun b0 =>
 T.ak (b0.add 1) [.slice a7 a8 a9] <|
 T.again 0 [])) <| T.join []
 (T.ah k [.string] fun a1 =>
 cond (!((ByteArray.toList a1)==[]))
 (T.aA a fun a2 =>
 T.ah (a2.add 5) [.slice 9] fun a3 a4 a5 =>
 T.ah k [.string] fun a6 =>
 aR (Instr.buildSlice 25 1 #[(0,.string a6)]) fun a7 a8 a9 =>
 T.aT [((a2.add 5),[.slice a3 a4 a5])] <|
 aR (Builtin.append_ #[25,25] 25 #[.slice a3 a4 a5,.slice a7 a8 a9]) fun b0 b1 b2 =>
 T.aT [(k,[.string a6])] <|
 T.aA a fun b3 =>
 T.ak (b3.add 5) [.slice b0 b1 b2] <|
 T.again 0 [])
 (T.again 0 [])) <| T.join []
 (T.ah E [.int .i64] fun a1 =>
 cond (a1==(3:Int))
 (T.aA a fun a2 =>
 T.ah (a2.add 2) [.slice 99] fun a3 a4 a5 =>
 T.ah (E.add 2) [.string] fun a6 =>
 T.ah (E.add 3) (yL 109) fun a7 a8 a9 b0 =>
 aR (Instr.buildSlice 24 1 #[(0,.agg #[.string a6,.slice a7 a8 a9,av b0])]) fun b1 b2 b3 =>
 T.aT [((E.add 3),[.slice a7 a8 a9,av b0]),((E.add 2),[.string a6]),((a2.add 2),[.slice a3 a4 a5])] <|
 aR (Builtin.append_ #[24,24] 24 #[.slice a3 a4 a5,.slice b1 b2 b3]) fun b4 b5 b6 =>
 T.aT [((E.add 3),[.slice a7 a8 a9,av b0]),((E.add 2),[.string a6])] <|
 T.aA a fun b7 =>
 T.ak (b7.add 2) [.slice b4 b5 b6] <|
 T.aA a fun b8 =>
 T.ah (b8.add 5) [.slice 9] fun b9 c0 c1 =>
 T.ah (E.add 2) [.string] fun c2 =>
 aR (Instr.buildSlice 25 1 #[(0,.string c2)]) fun c3 c4 c5 =>
 T.aT [((b8.add 5),[.slice b9 c0 c1])] <|
 aR (Builtin.append_ #[25,25] 25 #[.slice b9 c0 c1,.slice c3 c4 c5]) fun c6 c7 c8 =>
 T.aT [((E.add 2),[.string c2])] <|
 T.aA a fun c9 =>
 T.ak (c9.add 5) [.slice c6 c7 c8] <|
 T.again 0 [])
 (cond (a1==(4:Int))
 (T.aA a fun a2 =>
 T.ah (a2.add 6) [.slice 9] fun a3 a4 a5 =>
 T.ah (E.add 2) [.string] fun a6 =>
 aR (Instr.buildSlice 25 1 #[(0,.string a6)]) fun a7 a8 a9 =>
 T.aT [((a2.add 6),[.slice a3 a4 a5])] <|
 aR (Builtin.append_ #[25,25] 25 #[.slice a3 a4 a5,.slice a7 a8 a9]) fun b0 b1 b2 =>
 T.aT [((E.add 2),[.string a6])] <|
 T.aA a fun b3 =>
 T.ak (b3.add 6) [.slice b0 b1 b2] <|
 T.aA a fun b4 =>
 T.ah (b4.add 7) [.slice 3] fun b5 b6 b7 =>
 aR (Instr.buildSlice 140 1 #[(0,vI b)]) fun b8 b9 c0 =>
 aR (Builtin.append_ #[140,140] 140 #[.slice b5 b6 b7,.slice b8 b9 c0]) fun c1 c2 c3 =>
 T.aA a fun c4 =>
 T.ak (c4.add 7) [.slice c1 c2 c3] <|
 T.again 0 [])
 (cond (a1==(5:Int))
 (T.ah (E.add 5) [.int .i64] fun a2 =>
 T.aA a fun a3 =>
 T.ak (a3.add 4) [vI a2] <|
 T.again 0 [])
 (T.again 0 [])))) <| T.ret (vI 0))))),
 (T.new [vI 0,aI,bh,aI,av 0,vI 0] 194 fun t =>
 T.aT [((r.add 4),[vI s]),(k,[.string m,.string n,.slice o p q])] <|
 aS 103 [.agg #[.string m,.string n,.slice o p q],vI s] true [(true,[.int .i64,.slice 96,.string,.slice 109,.int .u32,.int .i64]),aQ] fun u v w x y z A B C D E =>
 T.ak t [vI u,.slice v w x,.string y,.slice z A B,av C,vI D] <|
 cond (E != (0:Int))
 (T.ret (vI E))
 (T.join [bZ]
 (T.ah k [.string] fun F =>
 cond (!((ByteArray.toList F)==[]))
 (T.aA a fun G =>
 T.ah (G.add 5) [.slice 9] fun H I J =>
 T.ah k [.string] fun K =>
 aN 50 [.slice H I J,.string K] fun L =>
 T.aT [(k,[.string F])] <|
 cond L
 (T.again 0 [.bool true])
 (T.ah t [.int .i64] fun M =>
 cond (M==(3:Int))
 (T.aA a fun N =>
 T.ah (N.add 5) [.slice 9] fun O P Q =>
 T.ah (t.add 2) [.string] fun R =>
 aN 50 [.slice O P Q,.string R] fun S =>
 T.aT [(t,[vI M]),(k,[.string K]),((G.add 5),[.slice H I J]),(k,[.string F])] <|
 cond S
 (T.again 0 [.bool true])
 (T.ah (t.add 2) [.string] fun U =>
 T.ah k [.string] fun V =>
 T.again 0 [.bool ((ByteArray.toList U)==(ByteArray.toList V))]))
 (T.again 0 [.bool false])))
 (T.ah t [.int .i64] fun G =>
 cond (G==(3:Int))
 (T.aA a fun H =>
 T.ah (H.add 5) [.slice 9] fun I J K =>
 T.ah (t.add 2) [.string] fun L =>
 aN 50 [.slice I J K,.string L] fun M =>
 T.aT [(t,[vI G]),(k,[.string F])] <|
 cond M
 (T.again 0 [.bool true])
 (T.ah (t.add 2) [.string] fun N =>
 T.ah k [.string] fun O =>
 T.again 0 [.bool ((ByteArray.toList N)==(ByteArray.toList O))]))
 (T.again 0 [.bool false]))) fun F =>
 cond F
 (T.ret (vI 22))
 (aR (Instr.buildSlice 23 0 #[]) fun G H I =>
 T.ah (t.add 1) [.slice 96] fun J K L =>
 aR (Builtin.append_ #[23,23] 23 #[.slice G H I,.slice J K L]) fun M N O =>
 T.join [gK]
 (T.ah k [.string] fun P =>
 cond (!((ByteArray.toList P)==[]))
 (T.ah k [.string] fun Q =>
 aR (Instr.buildSlice 23 1 #[(0,.agg #[vI 1,.string Q,vI 0,vI 0,vI 0,.int .i32 0,vI 0,aI,av 0,vI 0])]) fun R S U =>
 aR (Builtin.append_ #[23,23] 23 #[.slice R S U,.slice M N O]) fun V W X =>
 T.again 0 [.slice V W X])
 (T.again 0 [.slice M N O])) fun P Q R =>
 T.aA a fun S =>
 T.ah S [.slice 96] fun U V W =>
 T.aA a fun X =>
 T.ah (X.add 1) [.slice 96] fun Y Z a0 =>
 cond (decide ((aH ((aH ((V:Int)+(Z:Int)))+(Q:Int)))>(8192:Int)))
 (T.ret (vI 4))
 (T.join []
 (T.aA a fun a1 =>
 T.ah (a1.add 4) [.int .i64] fun a2 =>
 cond (a2==(0:Int))
 (T.aA a fun a3 =>
 T.ah a3 [.slice 96] fun a4 a5 a6 =>
 aR (Builtin.append_ #[23,23] 23 #[.slice a4 a5 a6,.slice P Q R]) fun a7 a8 a9 =>
 T.aA a fun b0 =>
 T.ak b0 [.slice a7 a8 a9] <|
 T.again 0 [])
 (T.aA a fun a3 =>
 T.ah (a3.add 1) [.slice 96] fun a4 a5 a6 =>
 aR (Builtin.append_ #[23,23] 23 #[.slice a4 a5 a6,.slice P Q R]) fun a7 a8 a9 =>
 T.aA a fun b0 =>
 T.ak (b0.add 1) [.slice a7 a8 a9] <|
 T.again 0 [])) <| T.join []
 (T.ah k [.string] fun a1 =>
 cond (!((ByteArray.toList a1)==[]))
 (T.aA a fun a2 =>
 T.ah (a2.add 5) [.slice 9] fun a3 a4 a5 =>
 T.ah k [.string] fun a6 =>
 aR (Instr.buildSlice 25 1 #[(0,.string a6)]) fun a7 a8 a9 =>
 T.aT [((a2.add 5),[.slice a3 a4 a5])] <|
 aR (Builtin.append_ #[25,25] 25 #[.slice a3 a4 a5,.slice a7 a8 a9]) fun b0 b1 b2 =>
 T.aT [(k,[.string a6])] <|
 T.aA a fun b3 =>
 T.ak (b3.add 5) [.slice b0 b1 b2] <|
 T.again 0 [])
 (T.again 0 [])) <| T.join []
 (T.ah t [.int .i64] fun a1 =>
 cond (a1==(3:Int))
 (T.aA a fun a2 =>
 T.ah (a2.add 2) [.slice 99] fun a3 a4 a5 =>
 T.ah (t.add 2) [.string] fun a6 =>
 T.ah (t.add 3) (yL 109) fun a7 a8 a9 b0 =>
 aR (Instr.buildSlice 24 1 #[(0,.agg #[.string a6,.slice a7 a8 a9,av b0])]) fun b1 b2 b3 =>
 T.aT [((t.add 3),[.slice a7 a8 a9,av b0]),((t.add 2),[.string a6]),((a2.add 2),[.slice a3 a4 a5])] <|
 aR (Builtin.append_ #[24,24] 24 #[.slice a3 a4 a5,.slice b1 b2 b3]) fun b4 b5 b6 =>
 T.aT [((t.add 3),[.slice a7 a8 a9,av b0]),((t.add 2),[.string a6])] <|
 T.aA a fun b7 =>
 T.ak (b7.add 2) [.slice b4 b5 b6] <|
 T.aA a fun b8 =>
 T.ah (b8.add 5) [.slice 9] fun b9 c0 c1 =>
 T.ah (t.add 2) [.string] fun c2 =>
 aR (Instr.buildSlice 25 1 #[(0,.string c2)]) fun c3 c4 c5 =>
 T.aT [((b8.add 5),[.slice b9 c0 c1])] <|
 aR (Builtin.append_ #[25,25] 25 #[.slice b9 c0 c1,.slice c3 c4 c5]) fun c6 c7 c8 =>
 T.aT [((t.add 2),[.string c2])] <|
 T.aA a fun c9 =>
 T.ak (c9.add 5) [.slice c6 c7 c8] <|
 T.again 0 [])
 (cond (a1==(4:Int))
 (T.aA a fun a2 =>
 T.ah (a2.add 6) [.slice 9] fun a3 a4 a5 =>
 T.ah (t.add 2) [.string] fun a6 =>
 aR (Instr.buildSlice 25 1 #[(0,.string a6)]) fun a7 a8 a9 =>
 T.aT [((a2.add 6),[.slice a3 a4 a5])] <|
 aR (Builtin.append_ #[25,25] 25 #[.slice a3 a4 a5,.slice a7 a8 a9]) fun b0 b1 b2 =>
 T.aT [((t.add 2),[.string a6])] <|
 T.aA a fun b3 =>
 T.ak (b3.add 6) [.slice b0 b1 b2] <|
 T.aA a fun b4 =>
 T.ah (b4.add 7) [.slice 3] fun b5 b6 b7 =>
 aR (Instr.buildSlice 140 1 #[(0,vI b)]) fun b8 b9 c0 =>
 aR (Builtin.append_ #[140,140] 140 #[.slice b5 b6 b7,.slice b8 b9 c0]) fun c1 c2 c3 =>
 T.aA a fun c4 =>
 T.ak (c4.add 7) [.slice c1 c2 c3] <|
 T.again 0 [])
 (cond (a1==(5:Int))
 (T.ah (t.add 5) [.int .i64] fun a2 =>
 T.aA a fun a3 =>
 T.ak (a3.add 4) [vI a2] <|
 T.again 0 [])
 (T.again 0 [])))) <| T.ret (vI 0)))))]))
def ju (a:Option XC) (b:Int) (c:XA):bD Tryz.prog [4,9,1014,1019,1021,1030] Tryz.f70 [.pointer a,vI b,.string c]=fD a b c:=aB
def iE (a:XA):T :=
 T.new [aI,aI,aI,aI] 27 fun b =>
 cond (decide ((a.size:Int)>(65536:Int)))
 (aR (Instr.buildSlice 81 1 #[(0,.agg #[vI 0,vI 3])]) fun c d e =>
 T.ak b [aI,aI,aI,aI] <|
 T.ah b (yU 96 99) fun f g h i j k l m n o p q =>
 aw #[.agg #[.slice f g h,.slice i j k,.slice l m n,.slice o p q],.slice c d e])
 (aS 69 [.string a] false [(false,[.slice 9])] fun c d e =>
 cond (decide ((d:Int)>(4096:Int)))
 (aR (Instr.buildSlice 81 1 #[(0,.agg #[vI 4097,vI 4])]) fun f g h =>
 T.ak b [aI,aI,aI,aI] <|
 T.ah b (yU 96 99) fun i j k l m n o p q r s t =>
 aw #[.agg #[.slice i j k,.slice l m n,.slice o p q,.slice r s t],.slice f g h])
 (T.new [aI,aI,aI,aI,vI 0,aI,aI,aI] 142 fun f =>
 T.loop [gK,aQ] [aI,vI 0] fun g h i j =>
 dH j d
 (T.join [gK]
 (cv j d c fun k =>
 T.ah (k.add (bW j 1)) [.string] fun l =>
 cU 70 [.pointer (some f),bN j,.string l] fun m =>
 cond (m != (0:Int))
 (aR (Instr.buildSlice 81 1 #[(0,.agg #[bN j,vI m])]) fun n o p =>
 aR (Builtin.append_ #[81,81] 81 #[.slice g h i,.slice n o p]) fun q r s =>
 T.again 1 [.slice q r s])
 (T.again 1 [.slice g h i])) fun k l m =>
 T.again 0 [.slice k l m,bN j])
 (T.loop [gK,aQ] [.slice g h i,vI 0] fun k l m n =>
 T.ah (f.add 6) [.slice 9] fun o p q =>
 dH n p
 (T.join [gK]
 (T.ah (f.add 5) [.slice 9] fun r s t =>
 T.ah (f.add 6) [.slice 9] fun u v w =>
 cv n v u fun x =>
 T.ah (x.add (bW n 1)) [.string] fun y =>
 aN 50 [.slice r s t,.string y] fun z =>
 T.aT [((f.add 6),[.slice u v w])] <|
 cond (!z)
 (T.ah (f.add 7) [.slice 3] fun A B C =>
 cv n B A fun D =>
 T.ah (D.add (bW n 1)) [.int .i64] fun E =>
 aR (Instr.buildSlice 81 1 #[(0,.agg #[vI E,vI 23])]) fun F G H =>
 aR (Builtin.append_ #[81,81] 81 #[.slice k l m,.slice F G H]) fun I J K =>
 T.again 2 [.slice I J K])
 (T.again 2 [.slice k l m])) fun r s t =>
 T.again 1 [.slice r s t,bN n])
 (T.ah (f.add 6) [.slice 9] fun r s t =>
 aS 22 [.slice r s t] false [(false,[.slice 9])] fun u v w =>
 T.ak (f.add 3) [.slice u v w] <|
 T.ah f (yU 96 99) fun x y z A B C D E F G H I =>
 T.ak b [.slice x y z,.slice A B C,.slice D E F,.slice G H I] <|
 T.ah b (yU 96 99) fun J K L M N O P Q R S U V =>
 aw #[.agg #[.slice J K L,.slice M N O,.slice P Q R,.slice S U V],.slice k l m]))))
def lZ (a:XA):bD Tryz.prog [1010,1016] Tryz.f36 [.string a]=iE a:=aB
def gQ (a:XA):T :=
 T.new [aI,aI,aI,aI] 27 fun b =>
 T.new [vI 0,vI 0] 33 fun c =>
 aS 36 [.string a] true [(true,(yU 96 99)),(false,[.slice 33])] fun d e f g h i j k l m n o p q r =>
 T.new [aI,aI,aI,aI] 27 fun s =>
 T.ak s [.slice d e f,.slice g h i,.slice j k l,.slice m n o] <|
 cond (decide ((q:Int)>(0:Int)))
 (T.need (aZ 0 q) <|
 T.aA p fun t =>
 T.ah t [.int .i64,.int .i64] fun u v =>
 T.ak b [aI,aI,aI,aI] <|
 T.aT [(t,[vI u,vI v])] <|
 T.ak c [vI u,vI v] <|
 T.ah b (yU 96 99) fun w x y z A B C D E F G H =>
 T.ah c [.int .i64,.int .i64] fun I J =>
 aw #[.agg #[.slice w x y,.slice z A B,.slice C D E,.slice F G H],.agg #[vI I,vI J]])
 (T.ah s (yU 96 99) fun t u v w x y z A B C D E =>
 T.ak b [.slice t u v,.slice w x y,.slice z A B,.slice C D E] <|
 T.ak c [vI 0,vI 0] <|
 T.ah b (yU 96 99) fun F G H I J K L M N O P Q =>
 T.ah c [.int .i64,.int .i64] fun R S =>
 aw #[.agg #[.slice F G H,.slice I J K,.slice L M N,.slice O P Q],.agg #[vI R,vI S]])
def kv (a:XA):bD Tryz.prog [] Tryz.f11 [.string a]=gQ a:=aB
def eH (a:Nat) (b:Nat) (c:Nat):T :=
 dh (Instr.makeMap 70 none) false [(false,[.map 0 0])] fun d =>
 T.ah (⟨c,0,none⟩:XC) [.pointer 73] fun e =>
 T.aA e fun f =>
 T.ah (f.add 7) [.slice 76] fun g h i =>
 T.loop [aQ] [vI 0] fun j =>
 dH j h
 (cv j h g fun k =>
 T.ah (k.add (bW j 2)) [.string,.int .i64] fun l m =>
 T.new [bh,vI 0] 76 fun n =>
 T.ak n [.string l,vI m] <|
 T.ah (⟨c,0,none⟩:XC) [.pointer 73] fun o =>
 T.aA o fun p =>
 T.ah (p.add 6) [.map 9 4] fun q =>
 T.ah n [.string] fun r =>
 bR (Instr.lookup 70 (.map q) (.string r) false) fun s =>
 T.aT [((⟨c,0,none⟩:XC),[.pointer o])] <|
 cond (!s)
 (T.ah (n.add 1) [.int .i64] fun t =>
 T.all [ (T.new [vI t,vI 23] 63 fun u =>
 T.aT [((n.add 1),[vI t])] <|
 T.ak (⟨a,0,none⟩:XC) [aI,aI,aI,aI] <|
 T.aT [((n.add 1),[vI t])] <|
 T.ak (⟨b,0,none⟩:XC) [.iface 59 (.pointer (some u))] <|
 T.ah (⟨a,0,none⟩:XC) (yU 96 99) fun v w x y z A B C D E F G =>
 T.ah (⟨b, 0, none⟩ : XC) [.interface #[("Error", 85)]] fun (H : XB) =>
 aw #[.agg #[.slice v w x,.slice y z A,.slice B C D,.slice E F G],H]),
 (T.ak (⟨a,0,none⟩:XC) [aI,aI,aI,aI] <|
 T.aT [((n.add 1),[vI t])] <|
 T.new [vI t,vI 23] 63 fun u =>
 T.aT [((n.add 1),[vI t])] <|
 T.ak (⟨b,0,none⟩:XC) [.iface 59 (.pointer (some u))] <|
 T.ah (⟨a,0,none⟩:XC) (yU 96 99) fun v w x y z A B C D E F G =>
 T.ah (⟨b, 0, none⟩ : XC) [.interface #[("Error", 85)]] fun (H : XB) =>
 aw #[.agg #[.slice v w x,.slice y z A,.slice B C D,.slice E F G],H])])
 (T.ah n [.string] fun t =>
 T.pB Tryz.prog (Instr.mapUpdate 70 (.map d) (.string t) (.bool true)) <|
 T.again 0 [bN j]))
 (T.ah (⟨c,0,none⟩:XC) [.pointer 73] fun k =>
 aS 35 [.map d] false [(false,[.func #[39] #[] false])] fun (l:XB) =>
 T.aT [((⟨c,0,none⟩:XC),[.pointer k])] <|
 aS 34 [l] false [(false,[.slice 9])] fun m n o =>
 T.aT [((⟨c,0,none⟩:XC),[.pointer k])] <|
 T.aA k fun p =>
 T.ak (p.add 3) [.slice m n o] <|
 T.ah (⟨c,0,none⟩:XC) [.pointer 73] fun q =>
 T.aA q fun r =>
 T.ah r (yU 96 99) fun s t u v w x y z A B C D =>
 T.ak (⟨a,0,none⟩:XC) [.slice s t u,.slice v w x,.slice y z A,.slice B C D] <|
 T.ak (⟨b,0,none⟩:XC) [.nilIface] <|
 T.ah (⟨a,0,none⟩:XC) (yU 96 99) fun E F G H I J K L M N O P =>
 T.ah (⟨b, 0, none⟩ : XC) [.interface #[("Error", 85)]] fun (Q : XB) =>
 aw #[.agg #[.slice E F G,.slice H I J,.slice K L M,.slice N O P],Q])
def mL (a:Nat) (b:Nat) (c:Nat):HX Tryz.prog [] Tryz.f10 (uN 7 Tryz.f10) [(2,some (.pointer (some (⟨a,0,none⟩:XC)))),(3,some (.pointer (some (⟨b,0,none⟩:XC)))),(5,some (.pointer (some (⟨c,0,none⟩:XC))))]=eH a b c:=aB
def uw (a:Option XC) (b c:Nat) (d:Option XC) (e f:Nat) (g:Option XC) (h i:Nat) (j:Option XC) (k l:Nat):T :=
 T.new [.slice a b c,.slice d e f,.slice g h i,.slice j k l] 27 fun m =>
 T.ah m (yU 96 99) fun n o p q r s t u v w x y =>
 cU 18 [.agg #[.slice n o p,.slice q r s,.slice t u v,.slice w x y]] fun z =>
 cond (z != (0:Int))
 (T.ret (vI 0))
 (T.ah m [.slice 96] fun A B C =>
 T.loop [aQ,aQ] [vI 0,vI 0] fun D E =>
 dH E B
 (cv E B A fun F =>
 T.ah (F.add (bW E 10)) (yI 109) fun G H I J K L M N O P Q R =>
 T.new [vI 0,bh,vI 0,vI 0,vI 0,.int .i32 0,vI 0,aI,av 0,vI 0] 96 fun S =>
 T.ak S [vI G,.string H,vI I,vI J,vI K,.int .i32 L,vI M,.slice N O P,av Q,vI R] <|
 T.ah S [.int .i64] fun U =>
 cond (U==(2:Int))
 (T.ah (S.add 2) [.int .i64] fun V =>
 aN 51 [vI V] fun W =>
 cond W
 (T.again 0 [bN D,bN E])
 (T.again 0 [vI D,bN E]))
 (T.again 0 [vI D,bN E]))
 (T.ret (vI D)))
def wK (a:Option XC) (b c:Nat) (d:Option XC) (e f:Nat) (g:Option XC) (h i:Nat) (j:Option XC) (k l:Nat):bD Tryz.prog [] Tryz.f21 [.agg #[.slice a b c,.slice d e f,.slice g h i,.slice j k l]]=uw a b c d e f g h i j k l:=aB
def ly (a:XA) (b:Int):T :=
 cond (decide ((a.size:Int)>b))
 (T.need (((0:Int)<=(0:Int))/\(((0:Int)<=b)/\(b<=(a.size:Int)))) <|
 T.ret (.string (ByteArray.extract a 0 (Int.toNat b))))
 (T.ret (.string a))
def pg (a:XA) (b:Int):bD Tryz.prog [] Tryz.f9 [.string a,vI b]=ly a b:=aB
def jl :T :=
 aS 10 [.string ⟨#[97, 58, 32, 106, 109, 112, 32, 97]⟩] true [(true, (yU 96 99)), (false, [.interface #[("Error", 85)]])] fun (a : Option XC) (b : Nat) (c : Nat) (d : Option XC) (e : Nat) (f : Nat) (g : Option XC) (h : Nat) (i : Nat) (j : Option XC) (k : Nat) (l : Nat) (m : XB) =>
 T.new [aI,aI,aI,aI] 27 fun n =>
 T.ak n [.slice a b c,.slice d e f,.slice g h i,.slice j k l] <|
 bR (Sx.df (BinOp.eql) 29 (Operand.tmp 7) (Operand.const Value.nilIface) m .nilIface) fun o =>
 cond o
 (T.ah n [.slice 96] fun p q r =>
 cond ((q:Int)==(2:Int))
 (T.ah n [.slice 96] fun s t u =>
 T.need (aZ 0 t) <|
 T.aA s fun v =>
 T.ah (v.add 1) [.string] fun w =>
 cond ((ByteArray.toList w)==[(aJ 97#8)])
 (T.ah n [.slice 96] fun x y z =>
 T.need (aZ 1 y) <|
 T.aA x fun A =>
 T.ah ((A.add 10).add 2) [.int .i64] fun B =>
 cond (B==(40:Int))
 (T.ah n (yU 96 99) fun C D E F G H I J K L M N =>
 cU 21 [.agg #[.slice C D E,.slice F G H,.slice I J K,.slice L M N]] fun O =>
 cond (O==(1:Int))
 (T.ah n (yU 96 99) fun P Q R S U V W X Y Z a0 a1 =>
 cU 18 [.agg #[.slice P Q R,.slice S U V,.slice W X Y,.slice Z a0 a1]] fun a2 =>
 cond (a2==(0:Int))
 (aN 17 [.string ⟨#[97,58,32,110,111,112,10,97,58,32,110,111,112]⟩,vI 2,vI 22] fun a3 =>
 T.ret (.bool a3))
 bE)
 bE)
 bE)
 bE)
 bE)
 bE
def mK :bD Tryz.prog [] Tryz.f14 []=jl :=aB
def jU (a:XA) (b:Int) (c:Int):T :=
 aS 10 [.string a] true [(true, (yU 96 99)), (false, [.interface #[("Error", 85)]])] fun (d : Option XC) (e : Nat) (f : Nat) (g : Option XC) (h : Nat) (i : Nat) (j : Option XC) (k : Nat) (l : Nat) (m : Option XC) (n : Nat) (o : Nat) (p : XB) =>
 T.new [aI,aI,aI,aI] 27 fun q =>
 T.ak q [.slice d e f,.slice g h i,.slice j k l,.slice m n o] <|
 aN 12 [p,.agg #[vI b,vI c]] fun r =>
 T.ret (.bool r)
def oI (a:XA) (b:Int) (c:Int):bD Tryz.prog [] Tryz.f17 [.string a,vI b,vI c]=jU a b c:=aB
end Go.Sx
