/- Trees of functions. No condition. -/
import Derived.Test.YtlpcncdglfjnoaaGreatDoorSxF
import Derived.Test.YtlpcncdglfjnoaaGreatDoorProg
import Derived.KernelRfl
set_option linter.all false
set_option maxRecDepth 100000
set_option maxHeartbeats 4000000
namespace Go.Sx
open Go.Proofs
def zD (a:Xac) (b c:Nat):T :=
 T.new [vI 0,vI 0,cm] 37 fun d =>
 cond ((b:Int)==0)
 (T.ar d [vI 25,vI 0,cm] <|
 T.af d [.int .i64,.int .i64,.string] fun e f g =>
 bK #[.pointer none,.agg #[vI e,vI f,.string g]])
 (cond (decide ((b:Int)>64))
 (T.ar d [vI 4,vI 0,cm] <|
 T.af d [.int .i64,.int .i64,.string] fun e f g =>
 bK #[.pointer none,.agg #[vI e,vI f,.string g]])
 (T.loop [(false,[.pointer 0]),aK] [.pointer none,vI 0] fun e f =>
 bn f b
 (aY f b a fun g =>
 T.af (g.add (ay f 4)) (yU 64 88) fun h i j k l m n o p q r s =>
 T.new [aS,aS,aS,aS] 30 fun t =>
 T.ar t [.slice h i j,.slice k l m,.slice n o p,.slice q r s] <|
 T.af t (yU 64 88) fun u v w x y z A B C D E F =>
 dl 42 [.agg #[.slice u v w,.slice x y z,.slice A B C,.slice D E F]] fun G =>
 cond (G != 0)
 (T.ar d [vI 31,vI f,cm] <|
 T.af d [.int .i64,.int .i64,.string] fun H I J =>
 bK #[.pointer none,.agg #[vI H,vI I,.string J]])
 (T.again 0 [.pointer e,bj f]))
 (bX (Instr.makeMap 96 none) false [(false,[.map 0 0])] fun g =>
 bX (Instr.makeMap 96 none) false [(false,[.map 0 0])] fun h =>
 bX (Instr.makeMap 97 none) false [(false,[.map 0 0])] fun i =>
 T.new [aS,aS,.map g,.map h,.map i,aS,vI 0] 99 fun j =>
 bz 43 [.pointer (some j),.slice a b c] true [] <| bz 44 [.pointer (some j),.slice a b c] true [(true,[.int .i64,.int .i64,.string]),cr] fun k l m n =>
 T.new [vI 0,vI 0,cm] 37 fun o =>
 T.ar o [vI k,vI l,.string m] <|
 cond n
 (T.af o [.int .i64,.int .i64,.string] fun p q r =>
 T.aD [(o,[vI p,vI q,.string r])] <|
 T.ar d [vI p,vI q,.string r] <|
 T.af d [.int .i64,.int .i64,.string] fun s t u =>
 bK #[.pointer none,.agg #[vI s,vI t,.string u]])
 (T.loop [(false,[.pointer 0]),dp,dp,aK] [.pointer e,aS,aS,vI 0] fun p q r s t u v w =>
 bn w b
 (aY w b a fun x =>
 T.af (x.add (ay w 4)) (yU 64 88) fun y z A B C D E F G H I J =>
 T.new [aS,aS,aS,aS] 30 fun K =>
 T.ar K [.slice y z A,.slice B C D,.slice E F G,.slice H I J] <|
 T.new [aS,aS,aS,aS] 30 fun L =>
 T.af K [.slice 64] fun M N O =>
 bz 45 [.pointer (some j),vI w,.slice M N O] true [(false,[.slice 64]),(false,[.string]),cr] fun P Q R S U =>
 T.ar L [.slice P Q R] <|
 cond (!U)
 (T.ar d [vI 23,vI w,.string S] <|
 T.af d [.int .i64,.int .i64,.string] fun V W X =>
 bK #[.pointer none,.agg #[vI V,vI W,.string X]])
 (T.af (K.add 1) [.slice 64] fun V W X =>
 bz 45 [.pointer (some j),vI w,.slice V W X] true [(false,[.slice 64]),(false,[.string]),cr] fun Y Z a0 a1 a2 =>
 T.ar (L.add 1) [.slice Y Z a0] <|
 cond (!a2)
 (T.ar d [vI 23,vI w,.string a1] <|
 T.af d [.int .i64,.int .i64,.string] fun a3 a4 a5 =>
 bK #[.pointer none,.agg #[vI a3,vI a4,.string a5]])
 (T.af (K.add 2) [.slice 88] fun a3 a4 a5 =>
 T.loop [(false,[.pointer 0]),dp,dp,aK] [.pointer p,.slice q r s,.slice t u v,vI 0] fun a6 a7 a8 a9 b0 b1 b2 b3 =>
 bn b3 a4
 (aY b3 a4 a3 fun b4 =>
 T.af (b4.add (ay b3 3)) [.string,.slice 66,.int .u32] fun b5 b6 b7 b8 b9 =>
 T.new [cm,aS,ax 0] 88 fun c0 =>
 T.ar c0 [.string b5,.slice b6 b7 b8,ax b9] <|
 T.af (c0.add 1) (yL 66) fun c1 c2 c3 c4 =>
 bz 46 [.pointer (some j),vI w,.agg #[.slice c1 c2 c3,ax c4]] true [(true,(yL 66)),(false,[.string]),cr] fun c5 c6 c7 c8 c9 d0 =>
 T.new [aS,ax 0] 60 fun d1 =>
 T.ar d1 [.slice c5 c6 c7,ax c8] <|
 cond (!d0)
 (T.ar d [vI 23,vI w,.string c9] <|
 T.af d [.int .i64,.int .i64,.string] fun d2 d3 d4 =>
 bK #[.pointer none,.agg #[vI d2,vI d3,.string d4]])
 (T.af c0 [.string] fun d2 =>
 T.af d1 (yL 66) fun d3 d4 d5 d6 =>
 jE 47 [.pointer (some j),.agg #[vI w,.string d2]] fun d7 =>
 T.aD [(d1,[.slice d3 d4 d5,ax d6]),(c0,[.string d2])] <|
 aT (Instr.buildSlice 27 1 #[(0,.agg #[.string d7,.slice d3 d4 d5,ax d6])]) fun d8 d9 e0 =>
 T.aD [(d1,[.slice d3 d4 d5,ax d6]),(c0,[.string d2])] <|
 aT (Builtin.append_ #[27,27] 27 #[.slice a7 a8 a9,.slice d8 d9 e0]) fun e1 e2 e3 =>
 T.aD [(d1,[.slice d3 d4 d5,ax d6]),(c0,[.string d2])] <|
 T.af c0 [.string] fun e4 =>
 aT (Instr.buildSlice 103 1 #[(0,.agg #[vI w,.string e4])]) fun e5 e6 e7 =>
 aT (Builtin.append_ #[103,103] 103 #[.slice b0 b1 b2,.slice e5 e6 e7]) fun e8 e9 f0 =>
 T.again 2 [.pointer a6,.slice e1 e2 e3,.slice e8 e9 f0,bj b3]))
 (T.af j [.slice 30] fun b4 b5 b6 =>
 T.af L (yU 64 88) fun b7 b8 b9 c0 c1 c2 c3 c4 c5 c6 c7 c8 =>
 aT (Instr.buildSlice 22 1 #[(0,.agg #[.slice b7 b8 b9,.slice c0 c1 c2,.slice c3 c4 c5,.slice c6 c7 c8])]) fun c9 d0 d1 =>
 T.aD [(j,[.slice b4 b5 b6])] <|
 aT (Builtin.append_ #[22,22] 22 #[.slice b4 b5 b6,.slice c9 d0 d1]) fun d2 d3 d4 =>
 T.aD [(L,[.slice b7 b8 b9,.slice c0 c1 c2,.slice c3 c4 c5,.slice c6 c7 c8])] <|
 T.ar j [.slice d2 d3 d4] <|
 T.af (j.add 6) [.int .i64] fun d5 =>
 T.af K (yU 64 88) fun d6 d7 d8 d9 e0 e1 e2 e3 e4 e5 e6 e7 =>
 dl 48 [.agg #[.slice d6 d7 d8,.slice d9 e0 e1,.slice e2 e3 e4,.slice e5 e6 e7]] fun e8 =>
 T.aD [((j.add 6),[vI d5])] <|
 T.ar (j.add 6) [vI (bC (d5+e8))] <|
 T.again 1 [.pointer a6,.slice a7 a8 a9,.slice b0 b1 b2,bj w]))))
 (bz 49 [.slice q r s] true [(false,[.slice 88]),aK,aK] fun x y z A B =>
 cond (B != 0)
 (aY A u t fun C =>
 T.af (C.add (ay A 2)) [.int .i64] fun D =>
 aY A u t fun E =>
 T.af ((E.add (ay A 2)).add 1) [.string] fun F =>
 T.aD [(((E.add (ay A 2)).add 1),[.string F]),((C.add (ay A 2)),[vI D])] <|
 T.ar d [vI B,vI D,.string F] <|
 T.af d [.int .i64,.int .i64,.string] fun G H I =>
 bK #[.pointer none,.agg #[vI G,vI H,.string I]])
 (T.af j [.slice 30] fun C D E =>
 T.loop [aK] [vI 0] fun F =>
 bn F D
 (aY F D C fun G =>
 T.af (G.add (ay F 4)) (yU 64 88) fun H I J K L M N O P Q R S =>
 T.new [aS,aS,aS,aS] 30 fun U =>
 T.ar U [.slice H I J,.slice K L M,.slice N O P,.slice Q R S] <|
 T.af U [.slice 64] fun V W X =>
 T.af (U.add 1) [.slice 64] fun Y Z a0 =>
 aT (Instr.buildSlice 68 2 #[(0,.slice V W X),(1,.slice Y Z a0)]) fun a1 a2 a3 =>
 T.loop [aK] [vI 0] fun a4 =>
 bn a4 a2
 (aY a4 a2 a1 fun a5 =>
 T.af (a5.add (ay a4 1)) [.slice 64] fun a6 a7 a8 =>
 T.loop [aK] [vI 0] fun a9 =>
 bn a9 a7
 (aY a9 a7 a6 fun b0 =>
 T.af ((b0.add (ay a9 10)).add 7) (yL 66) fun b1 b2 b3 b4 =>
 bz 50 [.agg #[.slice b1 b2 b3,ax b4],.slice x y z] false [(true,(yL 66))] fun b5 b6 b7 b8 =>
 aY a9 a7 a6 fun b9 =>
 T.ar ((b9.add (ay a9 10)).add 7) [.slice b5 b6 b7,ax b8] <|
 T.again 4 [bj a9])
 (T.again 3 [bj a4]))
 (T.again 2 [bj F]))
 (T.ar d [vI 0,vI 0,cm] <|
 T.af d [.int .i64,.int .i64,.string] fun G H I =>
 bK #[.pointer (some j),.agg #[vI G,vI H,.string I]])))))))
def AK (a:Xac) (b c:Nat):bS Xaz [] Tryz.f14 [.slice a b c]=zD a b c:=aw
def fj (a:Xac) (b c:Nat) (d:Xac) (e f:Nat):T :=
 cond ((b:Int) != (e:Int))
 bH
 (T.loop [cr,aK] [.bool false,vI 0] fun g h =>
 bn h b
 (aY h b a fun i =>
 T.af (i.add (ay h 4)) [.int .i64,.int .i64,.int .i64,.string] fun j k l m =>
 aY h e d fun n =>
 T.af (n.add (ay h 4)) [.int .i64,.int .i64,.int .i64,.string] fun o p q r =>
 ei (Sx.jk (BinOp.neq) 76 (Operand.tmp 20) (Operand.tmp 24) (.agg #[vI j,vI k,vI l,.string m]) (.agg #[vI o,vI p,vI q,.string r])) fun s =>
 cond s
 bH
 (T.again 0 [.bool g,bj h]))
 dZ)
def iQ (a:Xac) (b c:Nat) (d:Xac) (e f:Nat):bS Xaz [] Tryz.f31 [.slice a b c,.slice d e f]=fj a b c d e f:=aw
def Cg (a:Xac) (b c:Nat):T :=
 T.call Xaz 20 [.slice a b c] true [(false,[.pointer 99]),(false,[.pointer 70]),(false,[.bool]),(false,[.bool])] fun d e f g =>
 cond (!f)
 (cond g
 (T.call Xaz 9 [] false [(false,[.bool])] fun h =>
 T.ret (.bool h))
 (T.ret (.bool false)))
 (cond (decide ((b:Int)>=64))
 (T.call Xaz 9 [] false [(false,[.bool])] fun h =>
 T.ret (.bool h))
 (T.eN Xaz (Instr.buildSlice 22 0 #[]) false [(false,[.slice 0])] fun h i j =>
 T.eN Xaz (Builtin.append_ #[22,22] 22 #[.slice h i j,.slice a b c]) false [(false,[.slice 0])] fun k l m =>
 T.call Xaz 21 [.string ⟨#[110,111,112,10,104,101,114,101,58,32,106,109,112,32,104,101,114,101]⟩] false [(true,(yU 64 88))] fun n o p q r s t u v w x y =>
 T.eN Xaz (Instr.buildSlice 22 1 #[(0,.agg #[.slice n o p,.slice q r s,.slice t u v,.slice w x y])]) false [(false,[.slice 0])] fun z A B =>
 T.eN Xaz (Builtin.append_ #[22,22] 22 #[.slice k l m,.slice z A B]) false [(false,[.slice 0])] fun C D E =>
 T.call Xaz 14 [.slice C D E] true [(false,[.pointer 99]),(true,[.int .i64,.int .i64,.string])] fun F G H I =>
 T.new [vI 0,vI 0,.string ⟨#[]⟩] 37 fun J =>
 T.ar J [vI G,vI H,.string I] <|
 cond (/-?Option.isSome.match_1-/ match F with
 | some val=>false
 | none=>true)
 (T.ret (.bool false))
 (T.af J [.int .i64,.int .i64,.string] fun K L M =>
 T.eN Xaz (Sx.jk (BinOp.neq) 37 (Operand.tmp 40) (Operand.tmp 41) (.agg #[vI K,vI L,.string M]) (.agg #[vI 0,vI 0,.string ⟨#[]⟩])) false [(false,[.bool])] fun N =>
 cond N
 (T.ret (.bool false))
 (T.call Xaz 22 [.pointer F] false [(false,[.int .i64])] fun O =>
 cond (O != (IntKind.wrap .i64 ((b:Int)+1)))
 (T.ret (.bool false))
 (T.call Xaz 19 [.pointer F] false [(false,[.int .i64])] fun P =>
 T.call Xaz 19 [.pointer d] false [(false,[.int .i64])] fun Q =>
 cond (P != (IntKind.wrap .i64 (Q+1)))
 (T.ret (.bool false))
 (T.loop [(false,[.bool]),(false,[.int .i64])] [.bool false,vI 0] fun R S =>
 cond (decide (S<(b:Int)))
 (T.call Xaz 17 [.pointer d,vI S,vI 0] false [(false,[.slice 64])] fun U V W =>
 T.call Xaz 17 [.pointer F,vI S,vI 0] false [(false,[.slice 64])] fun X Y Z =>
 T.call Xaz 15 [.slice U V W,.slice X Y Z] false [(false,[.bool])] fun a0 =>
 cond (!a0)
 (T.ret (.bool false))
 (T.call Xaz 17 [.pointer d,vI S,vI 1] false [(false,[.slice 64])] fun a1 a2 a3 =>
 T.call Xaz 17 [.pointer F,vI S,vI 1] false [(false,[.slice 64])] fun a4 a5 a6 =>
 T.call Xaz 15 [.slice a1 a2 a3,.slice a4 a5 a6] false [(false,[.bool])] fun a7 =>
 cond (!a7)
 (T.ret (.bool false))
 (T.again 0 [.bool R,vI (IntKind.wrap .i64 (S+1))])))
 (T.call Xaz 18 [.pointer F] false [(false,[.slice 76])] fun U V W =>
 T.call Xaz 18 [.pointer d] false [(false,[.slice 76])] fun X Y Z =>
 cond ((V:Int)==(IntKind.wrap .i64 ((Y:Int)+1)))
 (T.call Xaz 9 [] false [(false,[.bool])] fun a0 =>
 T.ret (.bool a0))
 (T.ret (.bool false)))))))))
def iA (a:Xac) (b c:Nat):T :=
 bd 8 [.slice a b c] fun d =>
 cond d
 (bd 9 [] fun e =>
 T.ret (.bool e))
 (T.loop [dp,aK] [aS,vI 0] fun e f g h =>
 bn h b
 (aY h b a fun i =>
 T.af (i.add (ay h 4)) (yU 64 88) fun j k l m n o p q r s t u =>
 bz 23 [.agg #[.slice j k l,.slice m n o,.slice p q r,.slice s t u]] false [(true,(yU 64 88))] fun v w x y z A B C D E F G =>
 aT (Instr.buildSlice 22 1 #[(0,.agg #[.slice v w x,.slice y z A,.slice B C D,.slice E F G])]) fun H I J =>
 aT (Builtin.append_ #[22,22] 22 #[.slice e f g,.slice H I J]) fun K L M =>
 T.again 0 [.slice K L M,bj h])
 (bz 14 [.slice e f g] true [(false,[.pointer 99]),(true,[.int .i64,.int .i64,.string])] fun i j k l =>
 T.new [vI 0,vI 0,cm] 37 fun m =>
 T.ar m [vI j,vI k,.string l] <|
 T.loop [cr,aK] [.bool false,vI 0] fun n o =>
 bn o b
 (aY o f e fun p =>
 T.af (p.add (ay o 4)) (yU 64 88) fun q r s t u v w x y z A B =>
 aY o b a fun C =>
 T.af (C.add (ay o 4)) (yU 64 88) fun D E F G H I J K L M N O =>
 bd 24 [.agg #[.slice q r s,.slice t u v,.slice w x y,.slice z A B],.agg #[.slice D E F,.slice G H I,.slice J K L,.slice M N O]] fun P =>
 cond (!P)
 bH
 (aY o f e fun Q =>
 T.af (Q.add (ay o 4)) (yU 64 88) fun R S U V W X Y Z a0 a1 a2 a3 =>
 bz 25 [.agg #[.slice R S U,.slice V W X,.slice Y Z a0,.slice a1 a2 a3]] true [] <| T.again 1 [.bool n,bj o]))
 (cond (/-?Option.isSome.match_1-/ match i with
 | some val=>false
 | none=>true)
 (T.af m [.int .i64] fun p =>
 cond (p != 0)
 (bd 9 [] fun q =>
 T.ret (.bool q))
 bH)
 (bz 26 [.slice a b c] true [(false,[.pointer 70]),(true,[.int .i64,.int .i64,.string])] fun p q r s =>
 T.new [vI 0,vI 0,cm] 54 fun t =>
 T.ar t [vI q,vI r,.string s] <|
 cond (/-?Option.isSome.match_1-/ match p with
 | some val=>false
 | none=>true)
 bH
 (T.loop [cr,aK] [.bool n,vI 0] fun u v =>
 bn v b
 (bz 17 [.pointer i,vI v,vI 0] false [(false,[.slice 64])] fun w x y =>
 T.loop [aK] [vI 0] fun z =>
 bn z x
 (T.loop [aK] [vI 0] fun A =>
 aY z x w fun B =>
 T.af ((B.add (ay z 10)).add 7) [.slice 66] fun C D E =>
 bn A D
 (aY z x w fun F =>
 T.af ((F.add (ay z 10)).add 7) [.slice 66] fun G H I =>
 aY A H G fun J =>
 T.ar (J.add (ay A 2)) [.string ⟨#[115,112,111,105,108,116]⟩,ax 0] <|
 T.again 4 [bj A])
 (aY z x w fun F =>
 T.ar (F.add (ay z 10)) [vI (-9),cm,vI 0,vI 0,vI 0,.int .i32 0,vI 0,aS,ax 0,vI 0] <|
 T.again 3 [bj z]))
 (T.aR p fun A =>
 T.af (A.add 2) [.slice 26] fun B C D =>
 aY v C B fun E =>
 T.af (E.add (ay v 1)) [.slice 64] fun F G H =>
 bz 17 [.pointer i,vI v,vI 0] false [(false,[.slice 64])] fun I J K =>
 T.aD [((E.add (ay v 1)),[.slice F G H]),((A.add 2),[.slice B C D])] <|
 bd 15 [.slice I J K,.slice F G H] fun L =>
 T.aD [((A.add 2),[.slice B C D])] <|
 cond (!L)
 bH
 (T.aR p fun M =>
 T.af (M.add 3) [.slice 26] fun N O P =>
 aY v O N fun Q =>
 T.af (Q.add (ay v 1)) [.slice 64] fun R S U =>
 bz 17 [.pointer i,vI v,vI 1] false [(false,[.slice 64])] fun V W X =>
 T.aD [((Q.add (ay v 1)),[.slice R S U]),((M.add 3),[.slice N O P]),((E.add (ay v 1)),[.slice F G H]),((A.add 2),[.slice B C D])] <|
 bd 15 [.slice V W X,.slice R S U] fun Y =>
 T.aD [((M.add 3),[.slice N O P]),((E.add (ay v 1)),[.slice F G H]),((A.add 2),[.slice B C D])] <|
 cond (!Y)
 bH
 (T.again 2 [.bool u,bj v]))))
 (T.new [aS,aS,vI 0,.bool false] 73 fun w =>
 bz 18 [.pointer i] false [(false,[.slice 76])] fun x y z =>
 bz 27 [.pointer (some w),.slice x y z] true [] <| bz 18 [.pointer i] false [(false,[.slice 76])] fun A B C =>
 bz 27 [.pointer (some w),.slice A B C] true [] <| bd 28 [.pointer (some w),.func (Fn.func 29) #[] #[]] fun D =>
 cond D
 (bd 9 [] fun E =>
 T.ret (.bool E))
 bH))))))
def lL (a:Xac) (b c:Nat):bS Xaz [] Tryz.f5 [.slice a b c]=iA a b c:=aw
def ej (a b:Xac) (c d:Nat):T :=
 T.join []
 (T.aR a fun e =>
 T.af e [.slice 43] fun f g h =>
 aT (Instr.buildSlice 71 1 #[(0,.slice b c d)]) fun i j k =>
 aT (Builtin.append_ #[71,71] 71 #[.slice f g h,.slice i j k]) fun l m n =>
 T.aR a fun o =>
 T.ar o [.slice l m n] <|
 T.again 0 []) <| T.join []
 (T.aR a fun e =>
 T.af (e.add 1) [.slice 43] fun f g h =>
 aT (Builtin.append_ #[43,43] 43 #[aS,.slice b c d]) fun i j k =>
 T.aD [((e.add 1),[.slice f g h])] <|
 aT (Instr.buildSlice 71 1 #[(0,.slice i j k)]) fun l m n =>
 T.aD [((e.add 1),[.slice f g h])] <|
 aT (Builtin.append_ #[71,71] 71 #[.slice f g h,.slice l m n]) fun o p q =>
 T.aR a fun r =>
 T.ar (r.add 1) [.slice o p q] <|
 T.again 0 []) <| T.aR a fun e =>
 T.af (e.add 2) [.int .i64] fun f =>
 T.aR a fun g =>
 T.ar (g.add 2) [vI (bC ((bC (f+(d:Int)))+1))] <|
 T.loop [] [] <| T.join []
 (T.aR a fun h =>
 T.af h [.slice 43] fun i j k =>
 cond (decide ((j:Int)>1))
 (T.aR a fun l =>
 T.af (l.add 2) [.int .i64] fun m =>
 cond (decide (m>1000000))
 (T.again 1 [])
 (T.aR a fun n =>
 T.af n [.slice 43] fun o p q =>
 cond (decide ((p:Int)>4000))
 (T.again 1 [])
 (bK #[])))
 (bK #[])) <| T.join []
 (T.aR a fun h =>
 T.af (h.add 3) [.bool] fun i =>
 cond i
 (T.aR a fun j =>
 T.ar (j.add 3) [.bool true] <|
 T.again 1 [])
 (T.aR a fun j =>
 T.af j [.slice 43] fun k l m =>
 T.need (iW 0 l) <|
 T.aR k fun n =>
 T.af n [.slice 76] fun o p q =>
 T.aR a fun r =>
 T.af (r.add 1) [.slice 43] fun s t u =>
 T.need (iW 0 t) <|
 T.aR s fun v =>
 T.af v [.slice 76] fun w x y =>
 bd 31 [.slice o p q,.slice w x y] fun z =>
 T.aD [((r.add 1),[.slice s t u]),(j,[.slice k l m]),((h.add 3),[.bool i])] <|
 T.aR a fun A =>
 T.ar (A.add 3) [.bool (!z)] <|
 T.again 1 [])) <| T.aR a fun h =>
 T.af (h.add 2) [.int .i64] fun i =>
 T.aR a fun j =>
 T.af j [.slice 43] fun k l m =>
 T.need (iW 0 l) <|
 T.aR k fun n =>
 T.af n [.slice 76] fun o p q =>
 T.aR a fun r =>
 T.ar (r.add 2) [vI (bC ((bC (i-(q:Int)))-1))] <|
 T.aR a fun s =>
 T.af s [.slice 43] fun t u v =>
 T.need (((0:Int)<=1)/\((1<=(u:Int))/\((u:Int)<=(v:Int)))) <|
 T.aR a fun w =>
 T.ar w [.slice (if (v=1) then t else (Option.map (fun x=>Addr.add x 1) t)) ((Int.toNat (u:Int))-1) (v-1)] <|
 T.aR a fun x =>
 T.af (x.add 1) [.slice 43] fun y z A =>
 T.need (((0:Int)<=1)/\((1<=(z:Int))/\((z:Int)<=(A:Int)))) <|
 T.aR a fun B =>
 T.ar (B.add 1) [.slice (if (A=1) then y else (Option.map (fun C=>Addr.add C 1) y)) ((Int.toNat (z:Int))-1) (A-1)] <|
 T.again 0 []
def gi (a b:Xac) (c d:Nat):bS Xaz [0,1,1004,4] Tryz.f27 [.pointer a,.slice b c d]=ej a b c d:=aw
def dM (a:Xac):T :=
 bd 66 [.pointer a] fun b =>
 cond (!b)
 bH
 (T.loop [aK] [vI 0] fun c =>
 T.aR a fun d =>
 T.af d [.slice 43] fun e f g =>
 bn c f
 (T.aR a fun h =>
 T.af h [.slice 43] fun i j k =>
 aY c j i fun l =>
 T.af (l.add (ay c 1)) [.slice 76] fun m n o =>
 T.aR a fun p =>
 T.af p [.slice 43] fun q r s =>
 aY c r q fun t =>
 T.af (t.add (ay c 1)) [.slice 76] fun u v w =>
 T.need (((0:Int)<=0)/\((0<=(w:Int))/\((w:Int)<=(o:Int)))) <|
 T.loop [aK] [vI 0] fun x =>
 cond (decide (x<((((Int.toNat (w:Int))-0):Nat):Int)))
 (T.sU Xaz (.func (Fn.func 29) #[] #[]) [vI c,vI x] false [(true,[.int .i64,.int .i64,.int .i64,.string])] fun y z A B =>
 T.need ((0<=x)/\(x<((((Int.toNat (w:Int))-0):Nat):Int))) <|
 T.aR (if (o=0) then m else (Option.map (fun C=>Addr.add C 0) m)) fun C =>
 T.ar (C.add (ay x 4)) [vI y,vI z,vI A,.string B] <|
 T.again 1 [bj x])
 (T.again 0 [bj c]))
 (T.loop [cr,aK] [.bool false,vI 0] fun h i =>
 T.aR a fun j =>
 T.af j [.slice 43] fun k l m =>
 bn i l
 (T.aR a fun n =>
 T.af n [.slice 43] fun o p q =>
 aY i p o fun r =>
 T.af (r.add (ay i 1)) [.slice 76] fun s t u =>
 T.aR a fun v =>
 T.af v [.slice 43] fun w x y =>
 aY i x w fun z =>
 T.af (z.add (ay i 1)) [.slice 76] fun A B C =>
 T.need (((0:Int)<=0)/\((0<=(C:Int))/\((C:Int)<=(u:Int)))) <|
 T.loop [cr,aK] [.bool h,vI 0] fun D E =>
 cond (decide (E<((((Int.toNat (C:Int))-0):Nat):Int)))
 (T.need ((0<=E)/\(E<((((Int.toNat (C:Int))-0):Nat):Int))) <|
 T.aR (if (u=0) then s else (Option.map (fun F=>Addr.add F 0) s)) fun F =>
 T.af (F.add (ay E 4)) [.int .i64,.int .i64,.int .i64,.string] fun G H I J =>
 T.sU Xaz (.func (Fn.func 29) #[] #[]) [vI i,vI E] false [(true,[.int .i64,.int .i64,.int .i64,.string])] fun K L M N =>
 T.aD [((F.add (ay E 4)),[vI G,vI H,vI I,.string J])] <|
 ei (Sx.jk (BinOp.neq) 76 (Operand.tmp 86) (Operand.tmp 90) (.agg #[vI G,vI H,vI I,.string J]) (.agg #[vI K,vI L,vI M,.string N])) fun O =>
 cond O
 bH
 (T.again 2 [.bool D,bj E]))
 (T.again 1 [.bool D,bj i]))
 (T.aR a fun n =>
 T.ar n [aS] <|
 T.aR a fun o =>
 T.ar (o.add 1) [aS] <|
 T.aR a fun p =>
 T.ar (p.add 2) [vI 0] <|
 T.ret (.bool true))))
def fo (a:Xac):bS Xaz [] Tryz.f28 [.pointer a,.func (Fn.func 29) #[] #[]]=dM a:=aw
def kE (a b:Int):T :=
 T.new [vI 0,vI 0,vI 0,cm] 76 fun c =>
 T.ar c [vI (bC ((-100)-a)),vI 0,vI (bC (0-b)),cm] <|
 T.af c [.int .i64,.int .i64,.int .i64,.string] fun d e f g =>
 T.ret (.agg #[vI d,vI e,vI f,.string g])
def pI (a b:Int):bS Xaz [] Tryz.f29 [vI a,vI b]=kE a b:=aw
def eb (a:Xac):T :=
 T.loop [aK] [vI 0] fun b =>
 T.aR a fun c =>
 T.af c [.slice 43] fun d e f =>
 bn b e
 (T.aR a fun g =>
 T.af (g.add 3) [.bool] fun h =>
 cond h
 (T.aR a fun i =>
 T.ar (i.add 3) [.bool true] <|
 T.again 0 [bj b])
 (T.aR a fun i =>
 T.af i [.slice 43] fun j k l =>
 aY b k j fun m =>
 T.af (m.add (ay b 1)) [.slice 76] fun n o p =>
 T.aR a fun q =>
 T.af (q.add 1) [.slice 43] fun r s t =>
 aY b s r fun u =>
 T.af (u.add (ay b 1)) [.slice 76] fun v w x =>
 bd 31 [.slice n o p,.slice v w x] fun y =>
 T.aD [((q.add 1),[.slice r s t]),(i,[.slice j k l]),((g.add 3),[.bool h])] <|
 T.aR a fun z =>
 T.ar (z.add 3) [.bool (!y)] <|
 T.again 0 [bj b]))
 (T.aR a fun g =>
 T.af (g.add 3) [.bool] fun h =>
 T.ret (.bool (!h)))
def fY (a:Xac):bS Xaz [] Tryz.f66 [.pointer a]=eb a:=aw
end Go.Sx
