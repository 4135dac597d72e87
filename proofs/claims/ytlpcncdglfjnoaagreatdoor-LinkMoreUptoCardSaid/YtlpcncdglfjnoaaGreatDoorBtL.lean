/- Trees of functions, each checked by the kernel against the code. No condition. -/
import Derived.Test.YtlpcncdglfjnoaaGreatDoorSxF
import Derived.Test.YtlpcncdglfjnoaaGreatDoorProg
import Derived.KernelRfl
set_option linter.all false
set_option maxRecDepth 100000
set_option maxHeartbeats 4000000
namespace Go.Sx
open Go.Proofs
def xG (a:Option ZC) (b c:Nat):T :=
 T.new [vI 0,vI 0,bS] 37 fun d =>
 cond ((b:Int)==(0:Int))
 (T.aC d [vI 25,vI 0,bS] <|
 T.ah d [.int .i64,.int .i64,.string] fun e f g =>
 T.ret (.tuple #[.pointer none,.agg #[vI e,vI f,.string g]]))
 (cond (decide ((b:Int)>(64:Int)))
 (T.aC d [vI 4,vI 0,bS] <|
 T.ah d [.int .i64,.int .i64,.string] fun e f g =>
 T.ret (.tuple #[.pointer none,.agg #[vI e,vI f,.string g]]))
 (T.loop [(false,[.pointer 0]),aM] [.pointer none,vI 0] fun e f =>
 bq f b
 (aZ f b a fun g =>
 T.ah (g.add (aK f 4)) [.slice 64,.slice 64,.slice 88,.slice 9] fun h i j k l m n o p q r s =>
 T.new [bd,bd,bd,bd] 30 fun t =>
 T.aC t [.slice h i j,.slice k l m,.slice n o p,.slice q r s] <|
 T.ah t [.slice 64,.slice 64,.slice 88,.slice 9] fun u v w x y z A B C D E F =>
 cD 42 [.agg #[.slice u v w,.slice x y z,.slice A B C,.slice D E F]] fun G =>
 cond (G != (0:Int))
 (T.aC d [vI 31,vI f,bS] <|
 T.ah d [.int .i64,.int .i64,.string] fun H I J =>
 T.ret (.tuple #[.pointer none,.agg #[vI H,vI I,.string J]]))
 (T.again 0 [.pointer e,bg f]))
 (bK (Instr.makeMap 96 none) false [(false,[.map 0 0])] fun g =>
 bK (Instr.makeMap 96 none) false [(false,[.map 0 0])] fun h =>
 bK (Instr.makeMap 97 none) false [(false,[.map 0 0])] fun i =>
 T.new [bd,bd,.map g,.map h,.map i,bd,vI 0] 99 fun j =>
 bG 43 [.pointer (some j),.slice a b c] true [] <| bG 44 [.pointer (some j),.slice a b c] true [(true,[.int .i64,.int .i64,.string]),cd] fun k l m n =>
 T.new [vI 0,vI 0,bS] 37 fun o =>
 T.aC o [vI k,vI l,.string m] <|
 cond n
 (T.ah o [.int .i64,.int .i64,.string] fun p q r =>
 T.bf [(o,[vI p,vI q,.string r])] <|
 T.aC d [vI p,vI q,.string r] <|
 T.ah d [.int .i64,.int .i64,.string] fun s t u =>
 T.ret (.tuple #[.pointer none,.agg #[vI s,vI t,.string u]]))
 (T.loop [(false,[.pointer 0]),db,db,aM] [.pointer e,bd,bd,vI 0] fun p q r s t u v w =>
 bq w b
 (aZ w b a fun x =>
 T.ah (x.add (aK w 4)) [.slice 64,.slice 64,.slice 88,.slice 9] fun y z A B C D E F G H I J =>
 T.new [bd,bd,bd,bd] 30 fun K =>
 T.aC K [.slice y z A,.slice B C D,.slice E F G,.slice H I J] <|
 T.new [bd,bd,bd,bd] 30 fun L =>
 T.ah K [.slice 64] fun M N O =>
 bG 45 [.pointer (some j),vI w,.slice M N O] true [(false,[.slice 64]),(false,[.string]),cd] fun P Q R S U =>
 T.aC L [.slice P Q R] <|
 cond (!U)
 (T.aC d [vI 23,vI w,.string S] <|
 T.ah d [.int .i64,.int .i64,.string] fun V W X =>
 T.ret (.tuple #[.pointer none,.agg #[vI V,vI W,.string X]]))
 (T.ah (K.add 1) [.slice 64] fun V W X =>
 bG 45 [.pointer (some j),vI w,.slice V W X] true [(false,[.slice 64]),(false,[.string]),cd] fun Y Z a0 a1 a2 =>
 T.aC (L.add 1) [.slice Y Z a0] <|
 cond (!a2)
 (T.aC d [vI 23,vI w,.string a1] <|
 T.ah d [.int .i64,.int .i64,.string] fun a3 a4 a5 =>
 T.ret (.tuple #[.pointer none,.agg #[vI a3,vI a4,.string a5]]))
 (T.ah (K.add 2) [.slice 88] fun a3 a4 a5 =>
 T.loop [(false,[.pointer 0]),db,db,aM] [.pointer p,.slice q r s,.slice t u v,vI 0] fun a6 a7 a8 a9 b0 b1 b2 b3 =>
 bq b3 a4
 (aZ b3 a4 a3 fun b4 =>
 T.ah (b4.add (aK b3 3)) [.string,.slice 66,.int .u32] fun b5 b6 b7 b8 b9 =>
 T.new [bS,bd,.int .u32 0] 88 fun c0 =>
 T.aC c0 [.string b5,.slice b6 b7 b8,.int .u32 b9] <|
 T.ah (c0.add 1) [.slice 66,.int .u32] fun c1 c2 c3 c4 =>
 bG 46 [.pointer (some j),vI w,.agg #[.slice c1 c2 c3,.int .u32 c4]] true [(true,[.slice 66,.int .u32]),(false,[.string]),cd] fun c5 c6 c7 c8 c9 d0 =>
 T.new [bd,.int .u32 0] 60 fun d1 =>
 T.aC d1 [.slice c5 c6 c7,.int .u32 c8] <|
 cond (!d0)
 (T.aC d [vI 23,vI w,.string c9] <|
 T.ah d [.int .i64,.int .i64,.string] fun d2 d3 d4 =>
 T.ret (.tuple #[.pointer none,.agg #[vI d2,vI d3,.string d4]]))
 (T.ah c0 [.string] fun d2 =>
 T.ah d1 [.slice 66,.int .u32] fun d3 d4 d5 d6 =>
 hY 47 [.pointer (some j),.agg #[vI w,.string d2]] fun d7 =>
 T.bf [(d1,[.slice d3 d4 d5,.int .u32 d6]),(c0,[.string d2])] <|
 bh (Instr.buildSlice 27 1 #[(0,.agg #[.string d7,.slice d3 d4 d5,.int .u32 d6])]) fun d8 d9 e0 =>
 T.bf [(d1,[.slice d3 d4 d5,.int .u32 d6]),(c0,[.string d2])] <|
 bh (Builtin.append_ #[27,27] 27 #[.slice a7 a8 a9,.slice d8 d9 e0]) fun e1 e2 e3 =>
 T.bf [(d1,[.slice d3 d4 d5,.int .u32 d6]),(c0,[.string d2])] <|
 T.ah c0 [.string] fun e4 =>
 bh (Instr.buildSlice 103 1 #[(0,.agg #[vI w,.string e4])]) fun e5 e6 e7 =>
 bh (Builtin.append_ #[103,103] 103 #[.slice b0 b1 b2,.slice e5 e6 e7]) fun e8 e9 f0 =>
 T.again 2 [.pointer a6,.slice e1 e2 e3,.slice e8 e9 f0,bg b3]))
 (T.ah j [.slice 30] fun b4 b5 b6 =>
 T.ah L [.slice 64,.slice 64,.slice 88,.slice 9] fun b7 b8 b9 c0 c1 c2 c3 c4 c5 c6 c7 c8 =>
 bh (Instr.buildSlice 22 1 #[(0,.agg #[.slice b7 b8 b9,.slice c0 c1 c2,.slice c3 c4 c5,.slice c6 c7 c8])]) fun c9 d0 d1 =>
 T.bf [(j,[.slice b4 b5 b6])] <|
 bh (Builtin.append_ #[22,22] 22 #[.slice b4 b5 b6,.slice c9 d0 d1]) fun d2 d3 d4 =>
 T.bf [(L,[.slice b7 b8 b9,.slice c0 c1 c2,.slice c3 c4 c5,.slice c6 c7 c8])] <|
 T.aC j [.slice d2 d3 d4] <|
 T.ah (j.add 6) [.int .i64] fun d5 =>
 T.ah K [.slice 64,.slice 64,.slice 88,.slice 9] fun d6 d7 d8 d9 e0 e1 e2 e3 e4 e5 e6 e7 =>
 cD 48 [.agg #[.slice d6 d7 d8,.slice d9 e0 e1,.slice e2 e3 e4,.slice e5 e6 e7]] fun e8 =>
 T.bf [((j.add 6),[vI d5])] <|
 T.aC (j.add 6) [vI (bi (d5+e8))] <|
 T.again 1 [.pointer a6,.slice a7 a8 a9,.slice b0 b1 b2,bg w]))))
 (bG 49 [.slice q r s] true [(false,[.slice 88]),aM,aM] fun x y z A B =>
 cond (B != (0:Int))
 (aZ A u t fun C =>
 T.ah (C.add (aK A 2)) [.int .i64] fun D =>
 aZ A u t fun E =>
 T.ah ((E.add (aK A 2)).add 1) [.string] fun F =>
 T.bf [(((E.add (aK A 2)).add 1),[.string F]),((C.add (aK A 2)),[vI D])] <|
 T.aC d [vI B,vI D,.string F] <|
 T.ah d [.int .i64,.int .i64,.string] fun G H I =>
 T.ret (.tuple #[.pointer none,.agg #[vI G,vI H,.string I]]))
 (T.ah j [.slice 30] fun C D E =>
 T.loop [aM] [vI 0] fun F =>
 bq F D
 (aZ F D C fun G =>
 T.ah (G.add (aK F 4)) [.slice 64,.slice 64,.slice 88,.slice 9] fun H I J K L M N O P Q R S =>
 T.new [bd,bd,bd,bd] 30 fun U =>
 T.aC U [.slice H I J,.slice K L M,.slice N O P,.slice Q R S] <|
 T.ah U [.slice 64] fun V W X =>
 T.ah (U.add 1) [.slice 64] fun Y Z a0 =>
 bh (Instr.buildSlice 68 2 #[(0,.slice V W X),(1,.slice Y Z a0)]) fun a1 a2 a3 =>
 T.loop [aM] [vI 0] fun a4 =>
 bq a4 a2
 (aZ a4 a2 a1 fun a5 =>
 T.ah (a5.add (aK a4 1)) [.slice 64] fun a6 a7 a8 =>
 T.loop [aM] [vI 0] fun a9 =>
 bq a9 a7
 (aZ a9 a7 a6 fun b0 =>
 T.ah ((b0.add (aK a9 10)).add 7) [.slice 66,.int .u32] fun b1 b2 b3 b4 =>
 bG 50 [.agg #[.slice b1 b2 b3,.int .u32 b4],.slice x y z] false [(true,[.slice 66,.int .u32])] fun b5 b6 b7 b8 =>
 aZ a9 a7 a6 fun b9 =>
 T.aC ((b9.add (aK a9 10)).add 7) [.slice b5 b6 b7,.int .u32 b8] <|
 T.again 4 [bg a9])
 (T.again 3 [bg a4]))
 (T.again 2 [bg F]))
 (T.aC d [vI 0,vI 0,bS] <|
 T.ah d [.int .i64,.int .i64,.string] fun G H I =>
 T.ret (.tuple #[.pointer (some j),.agg #[vI G,vI H,.string I]]))))))))
theorem zp (a:Option ZC) (b c:Nat):bI Tryz.prog [] Tryz.f14 [.slice a b c]=xG a b c:=ax
def Dj :T :=
 T.call Tryz.prog 21 [.string ⟨#[106,109,112,32,98]⟩] false [(true,[.slice 64,.slice 64,.slice 88,.slice 9])] fun a b c d e f g h i j k l =>
 T.call Tryz.prog 21 [.string ⟨#[103,108,111,98,97,108,32,98,10,98,58,32,110,111,112]⟩] false [(true,[.slice 64,.slice 64,.slice 88,.slice 9])] fun m n o p q r s t u v w x =>
 T.dY Tryz.prog (Instr.buildSlice 22 2 #[(0,.agg #[.slice a b c,.slice d e f,.slice g h i,.slice j k l]),(1,.agg #[.slice m n o,.slice p q r,.slice s t u,.slice v w x])]) false [(false,[.slice 0])] fun y z A =>
 T.call Tryz.prog 14 [.slice y z A] true [(false,[.pointer 99]),(true,[.int .i64,.int .i64,.string])] fun B C D E =>
 T.new [vI 0,vI 0,.string ⟨#[]⟩] 37 fun F =>
 T.aC F [vI C,vI D,.string E] <|
 T.call Tryz.prog 21 [.string ⟨#[106,109,112,32,98]⟩] false [(true,[.slice 64,.slice 64,.slice 88,.slice 9])] fun G H I J K L M N O P Q R =>
 T.dY Tryz.prog (Instr.buildSlice 22 1 #[(0,.agg #[.slice G H I,.slice J K L,.slice M N O,.slice P Q R])]) false [(false,[.slice 0])] fun S U V =>
 T.call Tryz.prog 14 [.slice S U V] true [(false,[.pointer 99]),(true,[.int .i64,.int .i64,.string])] fun W X Y Z =>
 T.new [vI 0,vI 0,.string ⟨#[]⟩] 37 fun a0 =>
 T.aC a0 [vI X,vI Y,.string Z] <|
 cond (!(/-?Option.isSome.match_1-/ match B with
 | some val=>false
 | none=>true))
 (T.ah F [.int .i64,.int .i64,.string] fun a1 a2 a3 =>
 T.dY Tryz.prog (Sx.iF (BinOp.eql) 37 (Operand.tmp 21) (Operand.tmp 22) (.agg #[vI a1,vI a2,.string a3]) (.agg #[vI 0,vI 0,.string ⟨#[]⟩])) false [(false,[.bool])] fun a4 =>
 cond a4
 (T.call Tryz.prog 22 [.pointer B] false [(false,[.int .i64])] fun a5 =>
 cond (a5==(2:Int))
 (T.call Tryz.prog 19 [.pointer B] false [(false,[.int .i64])] fun a6 =>
 cond (a6==(1:Int))
 (T.call Tryz.prog 17 [.pointer B,vI 0,vI 0] false [(false,[.slice 64])] fun a7 a8 a9 =>
 cond ((a8:Int)==(1:Int))
 (T.call Tryz.prog 17 [.pointer B,vI 0,vI 0] false [(false,[.slice 64])] fun b0 b1 b2 =>
 T.dY Tryz.prog (Instr.buildSlice 57 1 #[(0,.agg #[.string ⟨#[76,48]⟩,.int .u32 1])]) false [(false,[.slice 0])] fun b3 b4 b5 =>
 T.dY Tryz.prog (Instr.buildSlice 26 1 #[(0,.agg #[vI 2,.string ⟨#[]⟩,vI 40,vI 0,vI 0,.int .i32 0,vI 0,.slice b3 b4 b5,.int .u32 0,vI 0])]) false [(false,[.slice 0])] fun b6 b7 b8 =>
 T.call Tryz.prog 15 [.slice b0 b1 b2,.slice b6 b7 b8] false [(false,[.bool])] fun b9 =>
 cond b9
 (T.ah a0 [.int .i64,.int .i64,.string] fun c0 c1 c2 =>
 T.dY Tryz.prog (Sx.iF (BinOp.eql) 37 (Operand.tmp 53) (Operand.tmp 54) (.agg #[vI c0,vI c1,.string c2]) (.agg #[vI 23,vI 0,.string ⟨#[98]⟩])) false [(false,[.bool])] fun c3 =>
 T.ret (.bool c3))
 (T.ret (.bool false)))
 (T.ret (.bool false)))
 (T.ret (.bool false)))
 (T.ret (.bool false)))
 (T.ret (.bool false)))
 (T.ret (.bool false))
def lV (a:Option ZC) (b c:Nat):T :=
 aU 8 [.slice a b c] fun d =>
 cond d
 (T.ret (.tuple #[.pointer none,.pointer none,.bool false,.bool true]))
 (bG 14 [.slice a b c] true [(false,[.pointer 99]),(true,[.int .i64,.int .i64,.string])] fun e f g h =>
 T.new [vI 0,vI 0,bS] 37 fun i =>
 T.aC i [vI f,vI g,.string h] <|
 bG 26 [.slice a b c] true [(false,[.pointer 70]),(true,[.int .i64,.int .i64,.string])] fun j k l m =>
 T.new [vI 0,vI 0,bS] 54 fun n =>
 T.aC n [vI k,vI l,.string m] <|
 T.ah i [.int .i64] fun o =>
 T.ah n [.int .i64] fun p =>
 cond (o==p)
 (T.ah (i.add 1) [.int .i64] fun q =>
 T.ah (n.add 1) [.int .i64] fun r =>
 cond (q==r)
 (T.ah (i.add 2) [.string] fun s =>
 T.ah (n.add 2) [.string] fun t =>
 cond ((ByteArray.toList s)==(ByteArray.toList t))
 (T.ah n [.int .i64] fun u =>
 cond ((!(/-?Option.isSome.match_1-/ match e with
 | some val=>false
 | none=>true))==(u==(0:Int)))
 (T.ret (.tuple #[.pointer e,.pointer j,.bool (!(/-?Option.isSome.match_1-/ match e with
 | some val=>false
 | none=>true)),.bool ((!(/-?Option.isSome.match_1-/ match e with
 | some val=>false
 | none=>true))==(u==(0:Int)))]))
 (T.ret (.tuple #[.pointer e,.pointer j,.bool false,.bool ((!(/-?Option.isSome.match_1-/ match e with
 | some val=>false
 | none=>true))==(u==(0:Int)))])))
 (T.ret (.tuple #[.pointer e,.pointer j,.bool false,.bool false])))
 (T.ret (.tuple #[.pointer e,.pointer j,.bool false,.bool false])))
 (T.ret (.tuple #[.pointer e,.pointer j,.bool false,.bool false])))
theorem qL (a:Option ZC) (b c:Nat):bI Tryz.prog [] Tryz.f20 [.slice a b c]=lV a b c:=ax
def gk (a:Option ZC) (b c:Nat):T :=
 bG 20 [.slice a b c] true [(false,[.pointer 99]),(false,[.pointer 70]),cd,cd] fun d e f g =>
 cond (!f)
 (cond g
 (aU 9 [] fun h =>
 T.ret (.bool h))
 bt)
 (cond (decide ((b:Int)>=(64:Int)))
 (aU 9 [] fun h =>
 T.ret (.bool h))
 (bh (Instr.buildSlice 22 0 #[]) fun h i j =>
 bh (Builtin.append_ #[22,22] 22 #[.slice h i j,.slice a b c]) fun k l m =>
 bG 21 [.string ⟨#[110,111,112,10,104,101,114,101,58,32,106,109,112,32,104,101,114,101]⟩] false [(true,[.slice 64,.slice 64,.slice 88,.slice 9])] fun n o p q r s t u v w x y =>
 bh (Instr.buildSlice 22 1 #[(0,.agg #[.slice n o p,.slice q r s,.slice t u v,.slice w x y])]) fun z A B =>
 bh (Builtin.append_ #[22,22] 22 #[.slice k l m,.slice z A B]) fun C D E =>
 bG 14 [.slice C D E] true [(false,[.pointer 99]),(true,[.int .i64,.int .i64,.string])] fun F G H I =>
 T.new [vI 0,vI 0,bS] 37 fun J =>
 T.aC J [vI G,vI H,.string I] <|
 cond (/-?Option.isSome.match_1-/ match F with
 | some val=>false
 | none=>true)
 bt
 (T.ah J [.int .i64,.int .i64,.string] fun K L M =>
 dQ (Sx.iF (BinOp.neq) 37 (Operand.tmp 40) (Operand.tmp 41) (.agg #[vI K,vI L,.string M]) (.agg #[vI 0,vI 0,bS])) fun N =>
 cond N
 bt
 (cD 22 [.pointer F] fun O =>
 cond (O != (bi ((b:Int)+(1:Int))))
 bt
 (cD 19 [.pointer F] fun P =>
 cD 19 [.pointer d] fun Q =>
 cond (P != (bi (Q+(1:Int))))
 bt
 (T.loop [cd,aM] [.bool false,vI 0] fun R S =>
 bq S b
 (bG 17 [.pointer d,vI S,vI 0] false [(false,[.slice 64])] fun U V W =>
 bG 17 [.pointer F,vI S,vI 0] false [(false,[.slice 64])] fun X Y Z =>
 aU 15 [.slice U V W,.slice X Y Z] fun a0 =>
 cond (!a0)
 bt
 (bG 17 [.pointer d,vI S,vI 1] false [(false,[.slice 64])] fun a1 a2 a3 =>
 bG 17 [.pointer F,vI S,vI 1] false [(false,[.slice 64])] fun a4 a5 a6 =>
 aU 15 [.slice a1 a2 a3,.slice a4 a5 a6] fun a7 =>
 cond (!a7)
 bt
 (T.again 0 [.bool R,bg S])))
 (bG 18 [.pointer F] false [(false,[.slice 76])] fun U V W =>
 bG 18 [.pointer d] false [(false,[.slice 76])] fun X Y Z =>
 cond ((V:Int)==(bi ((Y:Int)+(1:Int))))
 (aU 9 [] fun a0 =>
 T.ret (.bool a0))
 bt)))))))
theorem km (a:Option ZC) (b c:Nat):bI Tryz.prog [] Tryz.f4 [.slice a b c]=gk a b c:=ax
end Go.Sx
