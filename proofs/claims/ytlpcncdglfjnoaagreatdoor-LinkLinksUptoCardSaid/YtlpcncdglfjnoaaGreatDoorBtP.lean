/- Trees of functions, each checked by the kernel against the code. No condition. -/
import Derived.Test.YtlpcncdglfjnoaaGreatDoorSxF
import Derived.Test.YtlpcncdglfjnoaaGreatDoorProg
import Derived.KernelRfl
set_option linter.all false
set_option maxRecDepth 100000
set_option maxHeartbeats 4000000
namespace Go.Sx
open Go.Proofs
def xE (a:Option YC) (b c:Nat):T :=
 T.new [vI 0,vI 0,bU] 37 fun d =>
 cond ((b:Int)==(0:Int))
 (T.aD d [vI 25,vI 0,bU] <|
 T.ah d [.int .i64,.int .i64,.string] fun e f g =>
 T.ret (.tuple #[.pointer none,.agg #[vI e,vI f,.string g]]))
 (cond (decide ((b:Int)>(64:Int)))
 (T.aD d [vI 4,vI 0,bU] <|
 T.ah d [.int .i64,.int .i64,.string] fun e f g =>
 T.ret (.tuple #[.pointer none,.agg #[vI e,vI f,.string g]]))
 (T.loop [(false,[.pointer 0]),aM] [.pointer none,vI 0] fun e f =>
 bm f b
 (aX f b a fun g =>
 T.ah (g.add (aH f 4)) [.slice 64,.slice 64,.slice 88,.slice 9] fun h i j k l m n o p q r s =>
 T.new [bi,bi,bi,bi] 30 fun t =>
 T.aD t [.slice h i j,.slice k l m,.slice n o p,.slice q r s] <|
 T.ah t [.slice 64,.slice 64,.slice 88,.slice 9] fun u v w x y z A B C D E F =>
 cn 42 [.agg #[.slice u v w,.slice x y z,.slice A B C,.slice D E F]] fun G =>
 cond (G != (0:Int))
 (T.aD d [vI 31,vI f,bU] <|
 T.ah d [.int .i64,.int .i64,.string] fun H I J =>
 T.ret (.tuple #[.pointer none,.agg #[vI H,vI I,.string J]]))
 (T.again 0 [.pointer e,bh f]))
 (bK (Instr.makeMap 96 none) false [(false,[.map 0 0])] fun g =>
 bK (Instr.makeMap 96 none) false [(false,[.map 0 0])] fun h =>
 bK (Instr.makeMap 97 none) false [(false,[.map 0 0])] fun i =>
 T.new [bi,bi,.map g,.map h,.map i,bi,vI 0] 99 fun j =>
 bF 43 [.pointer (some j),.slice a b c] true [] <| bF 44 [.pointer (some j),.slice a b c] true [(true,[.int .i64,.int .i64,.string]),bT] fun k l m n =>
 T.new [vI 0,vI 0,bU] 37 fun o =>
 T.aD o [vI k,vI l,.string m] <|
 cond n
 (T.ah o [.int .i64,.int .i64,.string] fun p q r =>
 T.aY [(o,[vI p,vI q,.string r])] <|
 T.aD d [vI p,vI q,.string r] <|
 T.ah d [.int .i64,.int .i64,.string] fun s t u =>
 T.ret (.tuple #[.pointer none,.agg #[vI s,vI t,.string u]]))
 (T.loop [(false,[.pointer 0]),da,da,aM] [.pointer e,bi,bi,vI 0] fun p q r s t u v w =>
 bm w b
 (aX w b a fun x =>
 T.ah (x.add (aH w 4)) [.slice 64,.slice 64,.slice 88,.slice 9] fun y z A B C D E F G H I J =>
 T.new [bi,bi,bi,bi] 30 fun K =>
 T.aD K [.slice y z A,.slice B C D,.slice E F G,.slice H I J] <|
 T.new [bi,bi,bi,bi] 30 fun L =>
 T.ah K [.slice 64] fun M N O =>
 bF 45 [.pointer (some j),vI w,.slice M N O] true [(false,[.slice 64]),(false,[.string]),bT] fun P Q R S U =>
 T.aD L [.slice P Q R] <|
 cond (!U)
 (T.aD d [vI 23,vI w,.string S] <|
 T.ah d [.int .i64,.int .i64,.string] fun V W X =>
 T.ret (.tuple #[.pointer none,.agg #[vI V,vI W,.string X]]))
 (T.ah (K.add 1) [.slice 64] fun V W X =>
 bF 45 [.pointer (some j),vI w,.slice V W X] true [(false,[.slice 64]),(false,[.string]),bT] fun Y Z a0 a1 a2 =>
 T.aD (L.add 1) [.slice Y Z a0] <|
 cond (!a2)
 (T.aD d [vI 23,vI w,.string a1] <|
 T.ah d [.int .i64,.int .i64,.string] fun a3 a4 a5 =>
 T.ret (.tuple #[.pointer none,.agg #[vI a3,vI a4,.string a5]]))
 (T.ah (K.add 2) [.slice 88] fun a3 a4 a5 =>
 T.loop [(false,[.pointer 0]),da,da,aM] [.pointer p,.slice q r s,.slice t u v,vI 0] fun a6 a7 a8 a9 b0 b1 b2 b3 =>
 bm b3 a4
 (aX b3 a4 a3 fun b4 =>
 T.ah (b4.add (aH b3 3)) [.string,.slice 66,.int .u32] fun b5 b6 b7 b8 b9 =>
 T.new [bU,bi,.int .u32 0] 88 fun c0 =>
 T.aD c0 [.string b5,.slice b6 b7 b8,.int .u32 b9] <|
 T.ah (c0.add 1) [.slice 66,.int .u32] fun c1 c2 c3 c4 =>
 bF 46 [.pointer (some j),vI w,.agg #[.slice c1 c2 c3,.int .u32 c4]] true [(true,[.slice 66,.int .u32]),(false,[.string]),bT] fun c5 c6 c7 c8 c9 d0 =>
 T.new [bi,.int .u32 0] 60 fun d1 =>
 T.aD d1 [.slice c5 c6 c7,.int .u32 c8] <|
 cond (!d0)
 (T.aD d [vI 23,vI w,.string c9] <|
 T.ah d [.int .i64,.int .i64,.string] fun d2 d3 d4 =>
 T.ret (.tuple #[.pointer none,.agg #[vI d2,vI d3,.string d4]]))
 (T.ah c0 [.string] fun d2 =>
 T.ah d1 [.slice 66,.int .u32] fun d3 d4 d5 d6 =>
 iA 47 [.pointer (some j),.agg #[vI w,.string d2]] fun d7 =>
 T.aY [(d1,[.slice d3 d4 d5,.int .u32 d6]),(c0,[.string d2])] <|
 bk (Instr.buildSlice 27 1 #[(0,.agg #[.string d7,.slice d3 d4 d5,.int .u32 d6])]) fun d8 d9 e0 =>
 T.aY [(d1,[.slice d3 d4 d5,.int .u32 d6]),(c0,[.string d2])] <|
 bk (Builtin.append_ #[27,27] 27 #[.slice a7 a8 a9,.slice d8 d9 e0]) fun e1 e2 e3 =>
 T.aY [(d1,[.slice d3 d4 d5,.int .u32 d6]),(c0,[.string d2])] <|
 T.ah c0 [.string] fun e4 =>
 bk (Instr.buildSlice 103 1 #[(0,.agg #[vI w,.string e4])]) fun e5 e6 e7 =>
 bk (Builtin.append_ #[103,103] 103 #[.slice b0 b1 b2,.slice e5 e6 e7]) fun e8 e9 f0 =>
 T.again 2 [.pointer a6,.slice e1 e2 e3,.slice e8 e9 f0,bh b3]))
 (T.ah j [.slice 30] fun b4 b5 b6 =>
 T.ah L [.slice 64,.slice 64,.slice 88,.slice 9] fun b7 b8 b9 c0 c1 c2 c3 c4 c5 c6 c7 c8 =>
 bk (Instr.buildSlice 22 1 #[(0,.agg #[.slice b7 b8 b9,.slice c0 c1 c2,.slice c3 c4 c5,.slice c6 c7 c8])]) fun c9 d0 d1 =>
 T.aY [(j,[.slice b4 b5 b6])] <|
 bk (Builtin.append_ #[22,22] 22 #[.slice b4 b5 b6,.slice c9 d0 d1]) fun d2 d3 d4 =>
 T.aY [(L,[.slice b7 b8 b9,.slice c0 c1 c2,.slice c3 c4 c5,.slice c6 c7 c8])] <|
 T.aD j [.slice d2 d3 d4] <|
 T.ah (j.add 6) [.int .i64] fun d5 =>
 T.ah K [.slice 64,.slice 64,.slice 88,.slice 9] fun d6 d7 d8 d9 e0 e1 e2 e3 e4 e5 e6 e7 =>
 cn 48 [.agg #[.slice d6 d7 d8,.slice d9 e0 e1,.slice e2 e3 e4,.slice e5 e6 e7]] fun e8 =>
 T.aY [((j.add 6),[vI d5])] <|
 T.aD (j.add 6) [vI (bj (d5+e8))] <|
 T.again 1 [.pointer a6,.slice a7 a8 a9,.slice b0 b1 b2,bh w]))))
 (bF 49 [.slice q r s] true [(false,[.slice 88]),aM,aM] fun x y z A B =>
 cond (B != (0:Int))
 (aX A u t fun C =>
 T.ah (C.add (aH A 2)) [.int .i64] fun D =>
 aX A u t fun E =>
 T.ah ((E.add (aH A 2)).add 1) [.string] fun F =>
 T.aY [(((E.add (aH A 2)).add 1),[.string F]),((C.add (aH A 2)),[vI D])] <|
 T.aD d [vI B,vI D,.string F] <|
 T.ah d [.int .i64,.int .i64,.string] fun G H I =>
 T.ret (.tuple #[.pointer none,.agg #[vI G,vI H,.string I]]))
 (T.ah j [.slice 30] fun C D E =>
 T.loop [aM] [vI 0] fun F =>
 bm F D
 (aX F D C fun G =>
 T.ah (G.add (aH F 4)) [.slice 64,.slice 64,.slice 88,.slice 9] fun H I J K L M N O P Q R S =>
 T.new [bi,bi,bi,bi] 30 fun U =>
 T.aD U [.slice H I J,.slice K L M,.slice N O P,.slice Q R S] <|
 T.ah U [.slice 64] fun V W X =>
 T.ah (U.add 1) [.slice 64] fun Y Z a0 =>
 bk (Instr.buildSlice 68 2 #[(0,.slice V W X),(1,.slice Y Z a0)]) fun a1 a2 a3 =>
 T.loop [aM] [vI 0] fun a4 =>
 bm a4 a2
 (aX a4 a2 a1 fun a5 =>
 T.ah (a5.add (aH a4 1)) [.slice 64] fun a6 a7 a8 =>
 T.loop [aM] [vI 0] fun a9 =>
 bm a9 a7
 (aX a9 a7 a6 fun b0 =>
 T.ah ((b0.add (aH a9 10)).add 7) [.slice 66,.int .u32] fun b1 b2 b3 b4 =>
 bF 50 [.agg #[.slice b1 b2 b3,.int .u32 b4],.slice x y z] false [(true,[.slice 66,.int .u32])] fun b5 b6 b7 b8 =>
 aX a9 a7 a6 fun b9 =>
 T.aD ((b9.add (aH a9 10)).add 7) [.slice b5 b6 b7,.int .u32 b8] <|
 T.again 4 [bh a9])
 (T.again 3 [bh a4]))
 (T.again 2 [bh F]))
 (T.aD d [vI 0,vI 0,bU] <|
 T.ah d [.int .i64,.int .i64,.string] fun G H I =>
 T.ret (.tuple #[.pointer (some j),.agg #[vI G,vI H,.string I]]))))))))
theorem Ai (a:Option YC) (b c:Nat):bI Tryz.prog [] Tryz.f14 [.slice a b c]=xE a b c:=az
def De :T :=
 T.call Tryz.prog 21 [.string ⟨#[106,109,112,32,98]⟩] false [(true,[.slice 64,.slice 64,.slice 88,.slice 9])] fun a b c d e f g h i j k l =>
 T.call Tryz.prog 21 [.string ⟨#[103,108,111,98,97,108,32,98,10,98,58,32,110,111,112]⟩] false [(true,[.slice 64,.slice 64,.slice 88,.slice 9])] fun m n o p q r s t u v w x =>
 T.dW Tryz.prog (Instr.buildSlice 22 2 #[(0,.agg #[.slice a b c,.slice d e f,.slice g h i,.slice j k l]),(1,.agg #[.slice m n o,.slice p q r,.slice s t u,.slice v w x])]) false [(false,[.slice 0])] fun y z A =>
 T.call Tryz.prog 14 [.slice y z A] true [(false,[.pointer 99]),(true,[.int .i64,.int .i64,.string])] fun B C D E =>
 T.new [vI 0,vI 0,.string ⟨#[]⟩] 37 fun F =>
 T.aD F [vI C,vI D,.string E] <|
 T.call Tryz.prog 21 [.string ⟨#[106,109,112,32,98]⟩] false [(true,[.slice 64,.slice 64,.slice 88,.slice 9])] fun G H I J K L M N O P Q R =>
 T.dW Tryz.prog (Instr.buildSlice 22 1 #[(0,.agg #[.slice G H I,.slice J K L,.slice M N O,.slice P Q R])]) false [(false,[.slice 0])] fun S U V =>
 T.call Tryz.prog 14 [.slice S U V] true [(false,[.pointer 99]),(true,[.int .i64,.int .i64,.string])] fun W X Y Z =>
 T.new [vI 0,vI 0,.string ⟨#[]⟩] 37 fun a0 =>
 T.aD a0 [vI X,vI Y,.string Z] <|
 cond (!(/-?Option.isSome.match_1-/ match B with
 | some val=>false
 | none=>true))
 (T.ah F [.int .i64,.int .i64,.string] fun a1 a2 a3 =>
 T.dW Tryz.prog (Sx.iK (BinOp.eql) 37 (Operand.tmp 21) (Operand.tmp 22) (.agg #[vI a1,vI a2,.string a3]) (.agg #[vI 0,vI 0,.string ⟨#[]⟩])) false [(false,[.bool])] fun a4 =>
 cond a4
 (T.call Tryz.prog 22 [.pointer B] false [(false,[.int .i64])] fun a5 =>
 cond (a5==(2:Int))
 (T.call Tryz.prog 19 [.pointer B] false [(false,[.int .i64])] fun a6 =>
 cond (a6==(1:Int))
 (T.call Tryz.prog 17 [.pointer B,vI 0,vI 0] false [(false,[.slice 64])] fun a7 a8 a9 =>
 cond ((a8:Int)==(1:Int))
 (T.call Tryz.prog 17 [.pointer B,vI 0,vI 0] false [(false,[.slice 64])] fun b0 b1 b2 =>
 T.dW Tryz.prog (Instr.buildSlice 57 1 #[(0,.agg #[.string ⟨#[76,48]⟩,.int .u32 1])]) false [(false,[.slice 0])] fun b3 b4 b5 =>
 T.dW Tryz.prog (Instr.buildSlice 26 1 #[(0,.agg #[vI 2,.string ⟨#[]⟩,vI 40,vI 0,vI 0,.int .i32 0,vI 0,.slice b3 b4 b5,.int .u32 0,vI 0])]) false [(false,[.slice 0])] fun b6 b7 b8 =>
 T.call Tryz.prog 15 [.slice b0 b1 b2,.slice b6 b7 b8] false [(false,[.bool])] fun b9 =>
 cond b9
 (T.ah a0 [.int .i64,.int .i64,.string] fun c0 c1 c2 =>
 T.dW Tryz.prog (Sx.iK (BinOp.eql) 37 (Operand.tmp 53) (Operand.tmp 54) (.agg #[vI c0,vI c1,.string c2]) (.agg #[vI 23,vI 0,.string ⟨#[98]⟩])) false [(false,[.bool])] fun c3 =>
 T.ret (.bool c3))
 (T.ret (.bool false)))
 (T.ret (.bool false)))
 (T.ret (.bool false)))
 (T.ret (.bool false)))
 (T.ret (.bool false)))
 (T.ret (.bool false))
def ma (a:Option YC) (b c:Nat):T :=
 aU 8 [.slice a b c] fun d =>
 cond d
 (T.ret (.tuple #[.pointer none,.pointer none,.bool false,.bool true]))
 (bF 14 [.slice a b c] true [(false,[.pointer 99]),(true,[.int .i64,.int .i64,.string])] fun e f g h =>
 T.new [vI 0,vI 0,bU] 37 fun i =>
 T.aD i [vI f,vI g,.string h] <|
 bF 26 [.slice a b c] true [(false,[.pointer 70]),(true,[.int .i64,.int .i64,.string])] fun j k l m =>
 T.new [vI 0,vI 0,bU] 54 fun n =>
 T.aD n [vI k,vI l,.string m] <|
 T.ah i [.int .i64] fun o =>
 T.ah n [.int .i64] fun p =>
 cond (o==p)
 (T.ah (i.add 1) [.int .i64] fun q =>
 T.ah (n.add 1) [.int .i64] fun r =>
 cond (q==r)
 (T.ah (i.add 2) [.string] fun s =>
 T.ah (n.add 2) [.string] fun t =>
 cond ((ByteArray.toList s)==(ByteArray.toList t))
 (T.ah n [.int .i64] fun u =>
 cond ((!(/-?Option.isSome.match_1-/ match e with
 | some val=>false
 | none=>true))==(u==(0:Int)))
 (T.ret (.tuple #[.pointer e,.pointer j,.bool (!(/-?Option.isSome.match_1-/ match e with
 | some val=>false
 | none=>true)),.bool ((!(/-?Option.isSome.match_1-/ match e with
 | some val=>false
 | none=>true))==(u==(0:Int)))]))
 (T.ret (.tuple #[.pointer e,.pointer j,.bool false,.bool ((!(/-?Option.isSome.match_1-/ match e with
 | some val=>false
 | none=>true))==(u==(0:Int)))])))
 (T.ret (.tuple #[.pointer e,.pointer j,.bool false,.bool false])))
 (T.ret (.tuple #[.pointer e,.pointer j,.bool false,.bool false])))
 (T.ret (.tuple #[.pointer e,.pointer j,.bool false,.bool false])))
theorem qX (a:Option YC) (b c:Nat):bI Tryz.prog [] Tryz.f20 [.slice a b c]=ma a b c:=az
def fU (a:Option YC) (b c:Nat) (d:Option YC) (e f:Nat):T :=
 bF 20 [.slice a b c] true [(false,[.pointer 99]),(false,[.pointer 70]),bT,bT] fun g h i j =>
 cond (!i)
 (cond j
 (aU 9 [] fun k =>
 T.ret (.bool k))
 bo)
 (bF 18 [.pointer g] false [(false,[.slice 76])] fun k l m =>
 cn 22 [.pointer g] fun n =>
 cond (n != (b:Int))
 bo
 (cn 19 [.pointer g] fun o =>
 cn 32 [.pointer h] fun p =>
 cond (o != p)
 bo
 (T.bd h fun q =>
 T.ah (q.add 1) [.slice 82] fun r s t =>
 cond ((l:Int) != (s:Int))
 bo
 (T.loop [da,bT,aM] [.slice d e f,.bool false,vI 0] fun u v w x y =>
 bm y l
 (aX y l k fun z =>
 T.ah (z.add (aH y 4)) [.int .i64,.int .i64,.int .i64,.string] fun A B C D =>
 T.bd h fun E =>
 T.ah (E.add 1) [.slice 82] fun F G H =>
 aX y G F fun I =>
 T.ah (I.add (aH y 4)) [.int .i64] fun J =>
 T.bd h fun K =>
 T.ah (K.add 1) [.slice 82] fun L M N =>
 aX y M L fun O =>
 T.ah ((O.add (aH y 4)).add 1) [.int .i64] fun P =>
 T.bd h fun Q =>
 T.ah (Q.add 1) [.slice 82] fun R S U =>
 aX y S R fun V =>
 T.ah ((V.add (aH y 4)).add 2) [.int .i64] fun W =>
 T.bd h fun X =>
 T.ah (X.add 1) [.slice 82] fun Y Z a0 =>
 aX y Z Y fun a1 =>
 T.ah ((a1.add (aH y 4)).add 3) [.string] fun a2 =>
 dT (Sx.iK (BinOp.neq) 76 (Operand.tmp 62) (Operand.tmp 95) (.agg #[vI A,vI B,vI C,.string D]) (.agg #[vI J,vI P,vI W,.string a2])) fun a3 =>
 T.aY [(((a1.add (aH y 4)).add 3),[.string a2]),((X.add 1),[.slice Y Z a0]),(((V.add (aH y 4)).add 2),[vI W]),((Q.add 1),[.slice R S U]),(((O.add (aH y 4)).add 1),[vI P]),((K.add 1),[.slice L M N]),((I.add (aH y 4)),[vI J]),((E.add 1),[.slice F G H])] <|
 cond a3
 bo
 (aX y l k fun a4 =>
 T.ah ((a4.add (aH y 4)).add 3) [.string] fun a5 =>
 T.all [ (bk (Instr.sliceAt 28 (.slice u v w) none (some (vI (v:Int))) (some (vI (v:Int)))) fun a6 a7 a8 =>
 T.aY [(((a4.add (aH y 4)).add 3),[.string a5])] <|
 bk (Instr.buildSlice 28 1 #[(0,.string a5)]) fun a9 b0 b1 =>
 bk (Builtin.append_ #[28,28] 28 #[.slice a6 a7 a8,.slice a9 b0 b1]) fun b2 b3 b4 =>
 T.aY [(((a4.add (aH y 4)).add 3),[.string a5])] <|
 T.again 0 [.slice b2 b3 b4,.bool x,bh y]),
 (bk (Instr.buildSlice 28 1 #[(0,.string a5)]) fun a6 a7 a8 =>
 bk (Instr.sliceAt 28 (.slice u v w) none (some (vI (v:Int))) (some (vI (v:Int)))) fun a9 b0 b1 =>
 T.aY [(((a4.add (aH y 4)).add 3),[.string a5])] <|
 bk (Builtin.append_ #[28,28] 28 #[.slice a9 b0 b1,.slice a6 a7 a8]) fun b2 b3 b4 =>
 T.aY [(((a4.add (aH y 4)).add 3),[.string a5])] <|
 T.again 0 [.slice b2 b3 b4,.bool x,bh y])]))
 (T.loop [bT,aM] [.bool x,vI 0] fun z A =>
 bm A b
 (T.bd h fun B =>
 T.ah (B.add 2) [.slice 26] fun C D E =>
 aX A D C fun F =>
 T.ah (F.add (aH A 1)) [.slice 64] fun G H I =>
 bF 17 [.pointer g,vI A,vI 0] false [(false,[.slice 64])] fun J K L =>
 T.aY [((F.add (aH A 1)),[.slice G H I]),((B.add 2),[.slice C D E])] <|
 aU 15 [.slice J K L,.slice G H I] fun M =>
 T.aY [((B.add 2),[.slice C D E])] <|
 cond (!M)
 bo
 (T.bd h fun N =>
 T.ah (N.add 3) [.slice 26] fun O P Q =>
 aX A P O fun R =>
 T.ah (R.add (aH A 1)) [.slice 64] fun S U V =>
 bF 17 [.pointer g,vI A,vI 1] false [(false,[.slice 64])] fun W X Y =>
 T.aY [((R.add (aH A 1)),[.slice S U V]),((N.add 3),[.slice O P Q]),((F.add (aH A 1)),[.slice G H I]),((B.add 2),[.slice C D E])] <|
 aU 15 [.slice W X Y,.slice S U V] fun Z =>
 T.aY [((N.add 3),[.slice O P Q]),((F.add (aH A 1)),[.slice G H I]),((B.add 2),[.slice C D E])] <|
 cond (!Z)
 bo
 (T.loop [bT,aM] [.bool z,vI 0] fun a0 a1 =>
 bm a1 v
 (cond (decide (a1<(40:Int)))
 (aX a1 v u fun a2 =>
 T.ah (a2.add (aH a1 1)) [.string] fun a3 =>
 bF 30 [.pointer g,vI A,.string a3] true [aM,bT] fun a4 a5 =>
 aX a1 v u fun a6 =>
 T.ah (a6.add (aH a1 1)) [.string] fun a7 =>
 cn 33 [.pointer h,vI A,.string a7] fun a8 =>
 cond (!(a5==(decide (a8>=(0:Int)))))
 bo
 (cond a5
 (cond (a4 != a8)
 bo
 (cond (!a5)
 (cond (a4 != (0:Int))
 bo
 (T.again 2 [.bool a0,bh a1]))
 (T.again 2 [.bool a0,bh a1])))
 (cond (!a5)
 (cond (a4 != (0:Int))
 bo
 (T.again 2 [.bool a0,bh a1]))
 (T.again 2 [.bool a0,bh a1]))))
 (T.again 1 [.bool a0,bh A]))
 (T.again 1 [.bool a0,bh A]))))
 (aU 9 [] fun B =>
 T.ret (.bool B)))))))
theorem jW (a:Option YC) (b c:Nat) (d:Option YC) (e f:Nat):bI Tryz.prog [] Tryz.f7 [.slice a b c,.slice d e f]=fU a b c d e f:=az
end Go.Sx
