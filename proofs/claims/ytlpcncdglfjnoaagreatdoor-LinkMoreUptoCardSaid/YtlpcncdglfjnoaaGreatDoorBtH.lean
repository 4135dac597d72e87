/- Trees of functions, each checked by the kernel against the code. No condition. -/
import Derived.Test.YtlpcncdglfjnoaaGreatDoorSxF
import Derived.Test.YtlpcncdglfjnoaaGreatDoorProg
import Derived.KernelRfl
set_option linter.all false
set_option maxRecDepth 100000
set_option maxHeartbeats 4000000
namespace Go.Sx
open Go.Proofs
def iH (a:ZA) (b:ZC) (c:ZC) (d:ZC) (e:ZC) (f:ZC) (g:ZC) (h:ZC) (i:ZC):T :=
 T.ah b [.map 9 3] fun j =>
 T.ah b [.map 9 3] fun k =>
 bK (Builtin.len_ #[97] 3 #[.map k]) false [aM] fun l =>
 T.ec Tryz.prog (Instr.mapUpdate 97 (.map j) (.string a) (bg l)) <|
 T.ah c [.map 9 3] fun m =>
 T.ah b [.map 9 3] fun n =>
 bK (Instr.lookup 97 (.map n) (.string a) false) false [aM] fun o =>
 T.ec Tryz.prog (Instr.mapUpdate 97 (.map m) (.string a) (vI o)) <|
 T.ah d [.slice 9] fun p q r =>
 bh (Instr.buildSlice 28 1 #[(0,.string a)]) fun s t u =>
 bh (Builtin.append_ #[28,28] 28 #[.slice p q r,.slice s t u]) fun v w x =>
 T.aC d [.slice v w x] <|
 T.ah e [.map 9 4] fun y =>
 T.ec Tryz.prog (Instr.mapUpdate 142 (.map y) (.string a) (.bool true)) <|
 T.ah f [.slice 88] fun z A B =>
 T.ah g [.map 9 3] fun C =>
 bK (Instr.lookup 97 (.map C) (.string a) false) false [aM] fun D =>
 aZ D A z fun E =>
 T.ah ((E.add (aK D 3)).add 1) [.slice 66] fun F G H =>
 T.loop [aM] [vI 0] fun I =>
 bq I G
 (aZ I G F fun J =>
 T.ah (J.add (aK I 2)) [.string,.int .u32] fun K L =>
 T.new [bS,.int .u32 0] 66 fun M =>
 T.aC M [.string K,.int .u32 L] <|
 T.ah g [.map 9 3] fun N =>
 T.ah M [.string] fun O =>
 bK (Instr.lookup 97 (.map N) (.string O) true) true [aM,cd] fun P Q =>
 cond (!Q)
 (T.again 0 [bg I])
 (T.ah M [.string] fun R =>
 cond ((ByteArray.toList R)==(ByteArray.toList a))
 (T.ah h [.map 9 4] fun S =>
 T.ec Tryz.prog (Instr.mapUpdate 142 (.map S) (.string a) (.bool true)) <|
 T.ah b [.map 9 3] fun U =>
 T.ah M [.string] fun V =>
 bK (Instr.lookup 97 (.map U) (.string V) false) false [aM] fun W =>
 cond (W==(0:Int))
 (T.ah i [.func #[9] #[] false] fun (X:ZB) =>
 T.ah M [.string] fun Y =>
 T.vA Tryz.prog X [.string Y] true [] <| T.ah c [.map 9 3] fun Z =>
 T.ah c [.map 9 3] fun a0 =>
 bK (Instr.lookup 97 (.map a0) (.string a) false) false [aM] fun a1 =>
 T.ah c [.map 9 3] fun a2 =>
 T.ah M [.string] fun a3 =>
 bK (Instr.lookup 97 (.map a2) (.string a3) false) false [aM] fun a4 =>
 bK (Builtin.min_ #[3,3] 3 #[vI a1,vI a4]) false [aM] fun a5 =>
 T.ec Tryz.prog (Instr.mapUpdate 97 (.map Z) (.string a) (vI a5)) <|
 T.again 0 [bg I])
 (T.ah e [.map 9 4] fun X =>
 T.ah M [.string] fun Y =>
 dQ (Instr.lookup 142 (.map X) (.string Y) false) fun Z =>
 cond Z
 (T.ah c [.map 9 3] fun a0 =>
 T.ah c [.map 9 3] fun a1 =>
 bK (Instr.lookup 97 (.map a1) (.string a) false) false [aM] fun a2 =>
 T.ah b [.map 9 3] fun a3 =>
 T.ah M [.string] fun a4 =>
 bK (Instr.lookup 97 (.map a3) (.string a4) false) false [aM] fun a5 =>
 bK (Builtin.min_ #[3,3] 3 #[vI a2,vI a5]) false [aM] fun a6 =>
 T.ec Tryz.prog (Instr.mapUpdate 97 (.map a0) (.string a) (vI a6)) <|
 T.again 0 [bg I])
 (T.again 0 [bg I])))
 (T.ah b [.map 9 3] fun S =>
 T.ah M [.string] fun U =>
 bK (Instr.lookup 97 (.map S) (.string U) false) false [aM] fun V =>
 cond (V==(0:Int))
 (T.ah i [.func #[9] #[] false] fun (W:ZB) =>
 T.ah M [.string] fun X =>
 T.vA Tryz.prog W [.string X] true [] <| T.ah c [.map 9 3] fun Y =>
 T.ah c [.map 9 3] fun Z =>
 bK (Instr.lookup 97 (.map Z) (.string a) false) false [aM] fun a0 =>
 T.ah c [.map 9 3] fun a1 =>
 T.ah M [.string] fun a2 =>
 bK (Instr.lookup 97 (.map a1) (.string a2) false) false [aM] fun a3 =>
 bK (Builtin.min_ #[3,3] 3 #[vI a0,vI a3]) false [aM] fun a4 =>
 T.ec Tryz.prog (Instr.mapUpdate 97 (.map Y) (.string a) (vI a4)) <|
 T.again 0 [bg I])
 (T.ah e [.map 9 4] fun W =>
 T.ah M [.string] fun X =>
 dQ (Instr.lookup 142 (.map W) (.string X) false) fun Y =>
 cond Y
 (T.ah c [.map 9 3] fun Z =>
 T.ah c [.map 9 3] fun a0 =>
 bK (Instr.lookup 97 (.map a0) (.string a) false) false [aM] fun a1 =>
 T.ah b [.map 9 3] fun a2 =>
 T.ah M [.string] fun a3 =>
 bK (Instr.lookup 97 (.map a2) (.string a3) false) false [aM] fun a4 =>
 bK (Builtin.min_ #[3,3] 3 #[vI a1,vI a4]) false [aM] fun a5 =>
 T.ec Tryz.prog (Instr.mapUpdate 97 (.map Z) (.string a) (vI a5)) <|
 T.again 0 [bg I])
 (T.again 0 [bg I])))))
 (T.ah c [.map 9 3] fun J =>
 bK (Instr.lookup 97 (.map J) (.string a) false) false [aM] fun K =>
 T.ah b [.map 9 3] fun L =>
 bK (Instr.lookup 97 (.map L) (.string a) false) false [aM] fun M =>
 cond (decide (K<M))
 (T.ret (.tuple #[]))
 (T.ah d [.slice 9] fun N O P =>
 cD 107 [.slice N O P,.string a] fun Q =>
 T.ah d [.slice 9] fun R S U =>
 T.need (((0:Int)<=Q)/\((Q<=(S:Int))/\((S:Int)<=(U:Int)))) <|
 T.loop [aM] [vI 0] fun V =>
 cond (decide (V<((((Int.toNat (S:Int))-(Int.toNat Q)):Nat):Int)))
 (T.need (((0:Int)<=V)/\(V<((((Int.toNat (S:Int))-(Int.toNat Q)):Nat):Int))) <|
 T.bk (if (U=(Int.toNat Q)) then R else (Option.map (fun W=>Addr.add W (aK Q 1)) R)) fun W =>
 T.ah (W.add (aK V 1)) [.string] fun X =>
 T.ah e [.map 9 4] fun Y =>
 T.ec Tryz.prog (Instr.mapUpdate 142 (.map Y) (.string X) (.bool false)) <|
 T.ah h [.map 9 4] fun Z =>
 T.ah h [.map 9 4] fun a0 =>
 dQ (Instr.lookup 142 (.map a0) (.string X) false) fun a1 =>
 cond a1
 (T.ec Tryz.prog (Instr.mapUpdate 142 (.map Z) (.string X) (.bool true)) <|
 T.again 1 [bg V])
 (T.ah d [.slice 9] fun a2 a3 a4 =>
 T.ec Tryz.prog (Instr.mapUpdate 142 (.map Z) (.string X) (.bool (decide ((bi ((a3:Int)-Q))>(1:Int))))) <|
 T.again 1 [bg V]))
 (T.ah d [.slice 9] fun W X Y =>
 T.need (((0:Int)<=(0:Int))/\(((0:Int)<=Q)/\(Q<=(Y:Int)))) <|
 T.aC d [.slice (if (Y=0) then W else (Option.map (fun Z=>Addr.add Z 0) W)) ((Int.toNat Q)-0) (Y-0)] <|
 T.ret (.tuple #[]))))
theorem mw (a:ZA) (b:ZC) (c:ZC) (d:ZC) (e:ZC) (f:ZC) (g:ZC) (h:ZC) (i:ZC):bI Tryz.prog [] Tryz.f106 [.string a,.pointer (some b),.pointer (some c),.pointer (some d),.pointer (some e),.pointer (some f),.pointer (some g),.pointer (some h),.pointer (some i)]=iH a b c d e f g h i:=ax
def j0 (a:ZA) (b:ZC) (c:ZC) (d:ZC) (e:ZC):T :=
 T.new [bd,.int .u32 0] 60 fun f =>
 T.ah b [.map 9 60] fun g =>
 bK (Instr.lookup 147 (.map g) (.string a) true) true [(true,[.slice 66,.int .u32]),cd] fun h i j k l =>
 T.new [bd,.int .u32 0] 60 fun m =>
 T.aC m [.slice h i j,.int .u32 k] <|
 cond l
 (T.ah m [.slice 66,.int .u32] fun n o p q =>
 T.aC f [.slice n o p,.int .u32 q] <|
 T.ah f [.slice 66,.int .u32] fun r s t u =>
 T.ret (.agg #[.slice r s t,.int .u32 u]))
 (T.ah c [.slice 88] fun n o p =>
 T.ah d [.map 9 3] fun q =>
 bK (Instr.lookup 97 (.map q) (.string a) false) false [aM] fun r =>
 aZ r o n fun s =>
 T.ah ((s.add (aK r 3)).add 1) [.slice 66,.int .u32] fun t u v w =>
 T.new [bd,.int .u32 0] 60 fun x =>
 T.aC x [.slice t u v,.int .u32 w] <|
 T.ah x [.slice 66] fun y z A =>
 T.loop [aM] [vI 0] fun B =>
 bq B z
 (aZ B z y fun C =>
 T.ah (C.add (aK B 2)) [.string,.int .u32] fun D E =>
 T.new [bS,.int .u32 0] 66 fun F =>
 T.aC F [.string D,.int .u32 E] <|
 T.ah d [.map 9 3] fun G =>
 T.ah F [.string] fun H =>
 bK (Instr.lookup 97 (.map G) (.string H) true) true [aM,cd] fun I J =>
 cond J
 (T.ah e [.func #[9] #[60] false] fun (K:ZB) =>
 T.ah F [.string] fun L =>
 T.vA Tryz.prog K [.string L] false [(true,[.slice 66,.int .u32])] fun M N O P =>
 T.again 0 [bg B])
 (T.again 0 [bg B]))
 (T.ah x [.slice 66,.int .u32] fun C D E F =>
 T.ah b [.map 9 60] fun G =>
 bG 86 [.agg #[.slice C D E,.int .u32 F],.map G] false [(true,[.slice 66,.int .u32])] fun H I J K =>
 T.aC x [.slice H I J,.int .u32 K] <|
 T.ah b [.map 9 60] fun L =>
 T.ah x [.slice 66,.int .u32] fun M N O P =>
 T.ec Tryz.prog (Instr.mapUpdate 147 (.map L) (.string a) (.agg #[.slice M N O,.int .u32 P])) <|
 T.ah x [.slice 66,.int .u32] fun Q R S U =>
 T.aC f [.slice Q R S,.int .u32 U] <|
 T.ah f [.slice 66,.int .u32] fun V W X Y =>
 T.ret (.agg #[.slice V W X,.int .u32 Y])))
theorem oC (a:ZA) (b:ZC) (c:ZC) (d:ZC) (e:ZC):bI Tryz.prog [] Tryz.f85 [.string a,.pointer (some b),.pointer (some c),.pointer (some d),.pointer (some e)]=j0 a b c d e:=ax
def iJ (a:Option ZC) (b:Int) (c:Int):T :=
 cond (decide (b<(0:Int)))
 (T.ret (bd))
 (T.bk a fun d =>
 T.ah d [.slice 30] fun e f g =>
 cond (decide (b>=(f:Int)))
 (T.ret (bd))
 (cond (decide (c<(0:Int)))
 (T.ret (bd))
 (cond (decide (c>(1:Int)))
 (T.ret (bd))
 (T.bk a fun h =>
 T.ah h [.slice 30] fun i j k =>
 aZ b j i fun l =>
 T.ah (l.add (aK b 4)) [.slice 64] fun m n o =>
 cond (c==(1:Int))
 (T.bk a fun p =>
 T.ah p [.slice 30] fun q r s =>
 aZ b r q fun t =>
 T.ah ((t.add (aK b 4)).add 1) [.slice 64] fun u v w =>
 bG 53 [.slice u v w] false [(false,[.slice 64])] fun x y z =>
 T.loop [aM] [vI 0] fun A =>
 bq A y
 (aZ A y x fun B =>
 T.ah ((B.add (aK A 10)).add 7) [.slice 66] fun C D E =>
 bG 54 [.slice C D E] false [(false,[.slice 66])] fun F G H =>
 aZ A y x fun I =>
 T.aC ((I.add (aK A 10)).add 7) [.slice F G H] <|
 T.again 0 [bg A])
 (T.ret (.slice x y z)))
 (bG 53 [.slice m n o] false [(false,[.slice 64])] fun p q r =>
 T.loop [aM] [vI 0] fun s =>
 bq s q
 (aZ s q p fun t =>
 T.ah ((t.add (aK s 10)).add 7) [.slice 66] fun u v w =>
 bG 54 [.slice u v w] false [(false,[.slice 66])] fun x y z =>
 aZ s q p fun A =>
 T.aC ((A.add (aK s 10)).add 7) [.slice x y z] <|
 T.again 0 [bg s])
 (T.ret (.slice p q r)))))))
theorem mh (a:Option ZC) (b:Int) (c:Int):bI Tryz.prog [] Tryz.f17 [.pointer a,vI b,vI c]=iJ a b c:=ax
def iy (a:Option ZC):T :=
 T.bk a fun b =>
 T.ah (b.add 1) [.slice 76] fun c d e =>
 bG 55 [.slice c d e] false [(false,[.slice 76])] fun f g h =>
 T.ret (.slice f g h)
theorem lJ (a:Option ZC):bI Tryz.prog [] Tryz.f18 [.pointer a]=iy a:=ax
def iG (a:Option ZC):T :=
 T.bk a fun b =>
 T.ah (b.add 6) [.int .i64] fun c =>
 T.ret (vI c)
theorem mj (a:Option ZC):bI Tryz.prog [] Tryz.f19 [.pointer a]=iG a:=ax
def iW (a:Option ZC):T :=
 T.bk a fun b =>
 T.ah b [.slice 30] fun c d e =>
 T.ret (vI (d:Int))
theorem mH (a:Option ZC):bI Tryz.prog [] Tryz.f22 [.pointer a]=iW a:=ax
def dS (a:Option ZC) (b c:Nat):T :=
 cond (/-?Option.isSome.match_1-/ match a with
 | some val=>false
 | none=>true)
 (T.ret (bd))
 (bh (Instr.buildSlice 26 0 #[]) fun d e f =>
 bh (Builtin.append_ #[26,26] 26 #[.slice d e f,.slice a b c]) fun g h i =>
 T.ret (.slice g h i))
theorem fB (a:Option ZC) (b c:Nat):bI Tryz.prog [] Tryz.f53 [.slice a b c]=dS a b c:=ax
def dT (a:Option ZC) (b c:Nat):T :=
 cond (/-?Option.isSome.match_1-/ match a with
 | some val=>false
 | none=>true)
 (T.ret (bd))
 (bh (Instr.buildSlice 57 0 #[]) fun d e f =>
 bh (Builtin.append_ #[57,57] 57 #[.slice d e f,.slice a b c]) fun g h i =>
 T.ret (.slice g h i))
theorem fJ (a:Option ZC) (b c:Nat):bI Tryz.prog [] Tryz.f54 [.slice a b c]=dT a b c:=ax
def dp (a:Option ZC) (b c:Nat):T :=
 cond (/-?Option.isSome.match_1-/ match a with
 | some val=>false
 | none=>true)
 (T.ret (bd))
 (bh (Instr.buildSlice 43 0 #[]) fun d e f =>
 bh (Builtin.append_ #[43,43] 43 #[.slice d e f,.slice a b c]) fun g h i =>
 T.ret (.slice g h i))
theorem fc (a:Option ZC) (b c:Nat):bI Tryz.prog [] Tryz.f55 [.slice a b c]=dp a b c:=ax
def ka (a:Option ZC) (b:Int) (c:ZA):T :=
 T.new [vI b,.string c] 110 fun d =>
 T.bk a fun e =>
 T.ah (e.add 2) [.map 110 3] fun f =>
 T.ah d [.int .i64,.string] fun g h =>
 bK (Instr.lookup 96 (.map f) (.agg #[vI g,.string h]) true) true [aM,cd] fun i j =>
 T.bk a fun k =>
 T.ah (k.add 3) [.map 110 3] fun l =>
 T.ah d [.int .i64,.string] fun m n =>
 bK (Instr.lookup 96 (.map l) (.agg #[vI m,.string n]) true) true [aM,cd] fun o p =>
 cond j
 dH
 (T.ret (.bool p))
theorem oU (a:Option ZC) (b:Int) (c:ZA):bI Tryz.prog [] Tryz.f95 [.pointer a,.agg #[vI b,.string c]]=ka a b c:=ax
def jY (a:Option ZC) (b:Int) (c:ZA):T :=
 T.new [vI 0,bS] 110 fun d =>
 T.new [vI 0,bS] 110 fun e =>
 T.aC e [vI b,.string c] <|
 T.ah e [.int .i64,.string] fun f g =>
 aU 95 [.pointer a,.agg #[vI f,.string g]] fun h =>
 cond h
 (T.ah e [.int .i64,.string] fun i j =>
 T.aC d [vI i,.string j] <|
 T.ah d [.int .i64,.string] fun k l =>
 T.ret (.tuple #[.agg #[vI k,.string l],.bool true]))
 (T.bk a fun i =>
 T.ah (i.add 4) [.map 9 3] fun j =>
 bK (Instr.lookup 97 (.map j) (.string c) true) true [aM,cd] fun k l =>
 T.aC d [vI k,.string c] <|
 T.ah d [.int .i64,.string] fun m n =>
 T.ret (.tuple #[.agg #[vI m,.string n],.bool l]))
theorem pA (a:Option ZC) (b:Int) (c:ZA):bI Tryz.prog [] Tryz.f67 [.pointer a,vI b,.string c]=jY a b c:=ax
def jr (a:Option ZC) (b:Int) (c:ZA):T :=
 T.new [vI b,.string c] 110 fun d =>
 T.bk a fun e =>
 T.ah (e.add 2) [.map 110 3] fun f =>
 T.ah d [.int .i64,.string] fun g h =>
 bK (Instr.lookup 96 (.map f) (.agg #[vI g,.string h]) true) true [aM,cd] fun i j =>
 cond j
 (hY 81 [vI i] fun k =>
 T.need ((((1+k.size):Nat):Int)<=(9223372036854775807:Int)) <|
 T.ret (.string (⟨#[76]⟩++k)))
 (T.bk a fun k =>
 T.ah (k.add 3) [.map 110 3] fun l =>
 T.ah d [.int .i64,.string] fun m n =>
 bK (Instr.lookup 96 (.map l) (.agg #[vI m,.string n]) false) false [aM] fun o =>
 hY 81 [vI o] fun p =>
 T.bf [(d,[vI m,.string n]),((k.add 3),[.map l])] <|
 T.need ((((1+p.size):Nat):Int)<=(9223372036854775807:Int)) <|
 T.ret (.string (⟨#[69]⟩++p)))
theorem nH (a:Option ZC) (b:Int) (c:ZA):bI Tryz.prog [] Tryz.f47 [.pointer a,.agg #[vI b,.string c]]=jr a b c:=ax
def ir (a:Option ZC) (b:Int) (c:Option ZC) (d e:Nat) (f:Int):T :=
 T.new [.slice c d e,.int .u32 f] 60 fun g =>
 T.new [bd,.int .u32 0] 60 fun h =>
 T.ah g [.slice 66] fun i j k =>
 bh (Instr.makeSlice 27 (vI 0) (vI (j:Int))) fun l m n =>
 T.ah g [.slice 66] fun o p q =>
 T.loop [(false,[.string]),cd,db,aM] [bS,.bool false,.slice l m n,vI 0] fun r s t u v w =>
 bq w p
 (aZ w p o fun x =>
 T.ah (x.add (aK w 2)) [.string,.int .u32] fun y z =>
 T.new [bS,.int .u32 0] 66 fun A =>
 T.aC A [.string y,.int .u32 z] <|
 T.ah A [.string] fun B =>
 bG 67 [.pointer a,vI b,.string B] true [(true,[.int .i64,.string]),cd] fun C D E =>
 T.new [vI 0,bS] 110 fun F =>
 T.aC F [vI C,.string D] <|
 cond (!E)
 (T.ah A [.string] fun G =>
 T.aC h [bd,.int .u32 0] <|
 T.bf [(A,[.string G])] <|
 T.ah h [.slice 66,.int .u32] fun H I J K =>
 T.ret (.tuple #[.agg #[.slice H I J,.int .u32 K],.string G,.bool false]))
 (T.ah A [.string] fun G =>
 T.ah F [.int .i64,.string] fun H I =>
 hY 47 [.pointer a,.agg #[vI H,.string I]] fun J =>
 T.bf [(A,[.string G])] <|
 bh (Instr.buildSlice 57 1 #[(0,.agg #[.string J,.int .u32 1])]) fun K L M =>
 T.bf [(F,[vI H,.string I]),(A,[.string G])] <|
 bh (Instr.buildSlice 27 1 #[(0,.agg #[.string G,.slice K L M,.int .u32 0])]) fun N O P =>
 T.bf [(F,[vI H,.string I]),(A,[.string G])] <|
 bh (Builtin.append_ #[27,27] 27 #[.slice t u v,.slice N O P]) fun Q R S =>
 T.bf [(F,[vI H,.string I]),(A,[.string G])] <|
 T.again 0 [.string r,.bool s,.slice Q R S,bg w]))
 (T.ah g [.slice 66,.int .u32] fun x y z A =>
 bG 50 [.agg #[.slice x y z,.int .u32 A],.slice t u v] false [(true,[.slice 66,.int .u32])] fun B C D E =>
 T.aC h [.slice B C D,.int .u32 E] <|
 T.ah h [.slice 66,.int .u32] fun F G H I =>
 T.ret (.tuple #[.agg #[.slice F G H,.int .u32 I],bS,.bool true]))
theorem lI (a:Option ZC) (b:Int) (c:Option ZC) (d e:Nat) (f:Int):bI Tryz.prog [] Tryz.f46 [.pointer a,vI b,.agg #[.slice c d e,.int .u32 f]]=ir a b c d e f:=ax
def jx (a:Option ZC) (b:Option ZC) (c d:Nat):T :=
 T.new [vI 0,vI 0,bS] 37 fun e =>
 T.loop [cd,aM] [.bool false,vI 0] fun f g =>
 bq g c
 (aZ g c b fun h =>
 T.ah (h.add (aK g 4)) [.slice 64,.slice 64,.slice 88,.slice 9] fun i j k l m n o p q r s t =>
 T.new [bd,bd,bd,bd] 30 fun u =>
 T.aC u [.slice i j k,.slice l m n,.slice o p q,.slice r s t] <|
 T.ah (u.add 3) [.slice 9] fun v w x =>
 T.loop [cd,aM] [.bool f,vI 0] fun y z =>
 bq z w
 (aZ z w v fun A =>
 T.ah (A.add (aK z 1)) [.string] fun B =>
 T.bk a fun C =>
 T.ah (C.add 4) [.map 9 3] fun D =>
 bK (Instr.lookup 97 (.map D) (.string B) true) true [aM,cd] fun E F =>
 cond F
 (T.aC e [vI 22,vI g,.string B] <|
 T.ah e [.int .i64,.int .i64,.string] fun G H I =>
 T.ret (.tuple #[.agg #[vI G,vI H,.string I],.bool true]))
 (T.again 1 [.bool y,bg z]))
 (T.ah (u.add 3) [.slice 9] fun A B C =>
 T.loop [aM] [vI 0] fun D =>
 bq D B
 (aZ D B A fun E =>
 T.ah (E.add (aK D 1)) [.string] fun F =>
 T.bk a fun G =>
 T.ah (G.add 4) [.map 9 3] fun H =>
 T.ec Tryz.prog (Instr.mapUpdate 97 (.map H) (.string F) (vI g)) <|
 T.again 2 [bg D])
 (T.again 0 [.bool y,bg g])))
 (T.aC e [vI 0,vI 0,bS] <|
 T.ah e [.int .i64,.int .i64,.string] fun h i j =>
 T.ret (.tuple #[.agg #[vI h,vI i,.string j],.bool false]))
theorem nV (a:Option ZC) (b:Option ZC) (c d:Nat):bI Tryz.prog [] Tryz.f44 [.pointer a,.slice b c d]=jx a b c d:=ax
def iQ (a:Option ZC) (b:Option ZC) (c d:Nat):T :=
 T.loop [aM] [vI 0] fun e =>
 bq e c
 (aZ e c b fun f =>
 T.ah (f.add (aK e 4)) [.slice 64,.slice 64,.slice 88,.slice 9] fun g h i j k l m n o p q r =>
 T.new [bd,bd,bd,bd] 30 fun s =>
 T.aC s [.slice g h i,.slice j k l,.slice m n o,.slice p q r] <|
 T.ah s [.slice 64] fun t u v =>
 T.ah (s.add 1) [.slice 64] fun w x y =>
 bh (Instr.buildSlice 68 2 #[(0,.slice t u v),(1,.slice w x y)]) fun z A B =>
 T.loop [aM] [vI 0] fun C =>
 bq C A
 (aZ C A z fun D =>
 T.ah (D.add (aK C 1)) [.slice 64] fun E F G =>
 T.loop [aM] [vI 0] fun H =>
 bq H F
 (aZ H F E fun I =>
 T.ah (I.add (aK H 10)) [.int .i64,.string,.int .i64,.int .i64,.int .i64,.int .i32,.int .i64,.slice 66,.int .u32,.int .i64] fun J K L M N O P Q R S U V =>
 T.new [vI 0,bS,vI 0,vI 0,vI 0,.int .i32 0,vI 0,bd,.int .u32 0,vI 0] 64 fun W =>
 T.aC W [vI J,.string K,vI L,vI M,vI N,.int .i32 O,vI P,.slice Q R S,.int .u32 U,vI V] <|
 T.ah W [.int .i64] fun X =>
 cond (X==(1:Int))
 (T.bk a fun Y =>
 T.ah (Y.add 2) [.map 110 3] fun Z =>
 T.ah (W.add 1) [.string] fun a0 =>
 T.bk a fun a1 =>
 T.ah (a1.add 1) [.slice 76] fun a2 a3 a4 =>
 T.ec Tryz.prog (Instr.mapUpdate 96 (.map Z) (.agg #[vI e,.string a0]) (vI (a3:Int))) <|
 T.bk a fun a5 =>
 T.ah (a5.add 1) [.slice 76] fun a6 a7 a8 =>
 T.ah (W.add 1) [.string] fun a9 =>
 bh (Instr.buildSlice 43 1 #[(0,.agg #[vI e,vI C,vI H,.string a9])]) fun b0 b1 b2 =>
 T.bf [((W.add 1),[.string a9]),((a5.add 1),[.slice a6 a7 a8])] <|
 bh (Builtin.append_ #[43,43] 43 #[.slice a6 a7 a8,.slice b0 b1 b2]) fun b3 b4 b5 =>
 T.bf [((W.add 1),[.string a9])] <|
 T.bk a fun b6 =>
 T.aC (b6.add 1) [.slice b3 b4 b5] <|
 T.again 2 [bg H])
 (T.again 2 [bg H]))
 (T.again 1 [bg C]))
 (T.ah (s.add 2) [.slice 88] fun D E F =>
 T.loop [aM] [vI 0] fun G =>
 bq G E
 (aZ G E D fun H =>
 T.ah (H.add (aK G 3)) [.string,.slice 66,.int .u32] fun I J K L M =>
 T.new [bS,bd,.int .u32 0] 88 fun N =>
 T.aC N [.string I,.slice J K L,.int .u32 M] <|
 T.bk a fun O =>
 T.ah (O.add 3) [.map 110 3] fun P =>
 T.ah N [.string] fun Q =>
 T.bk a fun R =>
 T.ah (R.add 3) [.map 110 3] fun S =>
 bK (Builtin.len_ #[96] 3 #[.map S]) false [aM] fun U =>
 T.bf [(N,[.string Q]),((O.add 3),[.map P])] <|
 T.ec Tryz.prog (Instr.mapUpdate 96 (.map P) (.agg #[vI e,.string Q]) (vI U)) <|
 T.again 2 [bg G])
 (T.again 0 [bg e])))
 (T.ret (.tuple #[]))
theorem mI (a:Option ZC) (b:Option ZC) (c d:Nat):bI Tryz.prog [] Tryz.f43 [.pointer a,.slice b c d]=iQ a b c d:=ax
def iL (a:Option ZC) (b:Int) (c:Option ZC) (d e:Nat):T :=
 bG 53 [.slice c d e] false [(false,[.slice 64])] fun f g h =>
 T.loop [db,(false,[.string]),cd,aM] [bd,bS,.bool false,vI 0] fun i j k l m n =>
 bq n d
 (aZ n d c fun o =>
 T.ah (o.add (aK n 10)) [.int .i64,.string,.int .i64,.int .i64,.int .i64,.int .i32,.int .i64,.slice 66,.int .u32,.int .i64] fun p q r s t u v w x y z A =>
 T.new [vI 0,bS,vI 0,vI 0,vI 0,.int .i32 0,vI 0,bd,.int .u32 0,vI 0] 64 fun B =>
 T.aC B [vI p,.string q,vI r,vI s,vI t,.int .i32 u,vI v,.slice w x y,.int .u32 z,vI A] <|
 T.ah (B.add 7) [.slice 66,.int .u32] fun C D E F =>
 bG 46 [.pointer a,vI b,.agg #[.slice C D E,.int .u32 F]] true [(true,[.slice 66,.int .u32]),(false,[.string]),cd] fun G H I J K L =>
 T.new [bd,.int .u32 0] 60 fun M =>
 T.aC M [.slice G H I,.int .u32 J] <|
 cond (!L)
 (T.ret (.tuple #[bd,.string K,.bool false]))
 (T.ah M [.slice 66,.int .u32] fun N O P Q =>
 aZ n g f fun R =>
 T.aC ((R.add (aK n 10)).add 7) [.slice N O P,.int .u32 Q] <|
 T.again 0 [.slice i j k,.string l,.bool m,bg n]))
 (T.ret (.tuple #[.slice f g h,bS,.bool true]))
theorem mG (a:Option ZC) (b:Int) (c:Option ZC) (d e:Nat):bI Tryz.prog [] Tryz.f45 [.pointer a,vI b,.slice c d e]=iL a b c d e:=ax
def vD (a:Option ZC) (b c:Nat) (d:Option ZC) (e f:Nat) (g:Option ZC) (h i:Nat) (j:Option ZC) (k l:Nat):T :=
 T.new [.slice a b c,.slice d e f,.slice g h i,.slice j k l] 30 fun m =>
 T.ah m [.slice 64,.slice 64,.slice 88,.slice 9] fun n o p q r s t u v w x y =>
 cD 42 [.agg #[.slice n o p,.slice q r s,.slice t u v,.slice w x y]] fun z =>
 cond (z != (0:Int))
 (T.ret (vI 0))
 (T.ah m [.slice 64] fun A B C =>
 T.loop [aM,aM] [vI 0,vI 0] fun D E =>
 bq E B
 (aZ E B A fun F =>
 T.ah (F.add (aK E 10)) [.int .i64,.string,.int .i64,.int .i64,.int .i64,.int .i32,.int .i64,.slice 66,.int .u32,.int .i64] fun G H I J K L M N O P Q R =>
 T.new [vI 0,bS,vI 0,vI 0,vI 0,.int .i32 0,vI 0,bd,.int .u32 0,vI 0] 64 fun S =>
 T.aC S [vI G,.string H,vI I,vI J,vI K,.int .i32 L,vI M,.slice N O P,.int .u32 Q,vI R] <|
 T.ah S [.int .i64] fun U =>
 cond (U==(2:Int))
 (T.ah (S.add 2) [.int .i64] fun V =>
 aU 82 [vI V] fun W =>
 cond W
 (T.again 0 [bg D,bg E])
 (T.again 0 [vI D,bg E]))
 (T.again 0 [vI D,bg E]))
 (T.ret (vI D)))
theorem xP (a:Option ZC) (b c:Nat) (d:Option ZC) (e f:Nat) (g:Option ZC) (h i:Nat) (j:Option ZC) (k l:Nat):bI Tryz.prog [] Tryz.f48 [.agg #[.slice a b c,.slice d e f,.slice g h i,.slice j k l]]=vD a b c d e f g h i j k l:=ax
end Go.Sx
