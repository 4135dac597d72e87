/- Trees of functions, each checked by the kernel against the code. No condition. -/
import Derived.Test.YtlpcncdglfjnoaaGreatDoorSxF
import Derived.Test.YtlpcncdglfjnoaaGreatDoorProg
import Derived.KernelRfl
set_option linter.all false
set_option maxRecDepth 100000
set_option maxHeartbeats 4000000
namespace Go.Sx
open Go.Proofs
def r6 (a:YA) (b:Int):T :=
 T.call Tryz.prog 129 [.string a,.int .u8 b] false [(false,[.int .i64])] fun c =>
 T.ret (vI c)
theorem oB (a:YA) (b:Int):bI Tryz.prog [] Tryz.f120 [.string a,.int .u8 b]=r6 a b:=az
def hY (a:YA) (b:Int):T :=
 T.dW Tryz.prog (Sx.FO 144 #[.string a,.int .u8 b]) false [(false,[.int .i64])] fun c =>
 T.ret (vI c)
theorem gi (a:YA) (b:Int):bI Tryz.prog [] Tryz.f129 [.string a,.int .u8 b]=hY a b:=az
def IJ (a:YA) (b:YA):T :=
 T.loop [(false,[.int .i64])] [vI 0] fun c =>
 cond (decide (c<(a.size:Int)))
 (T.need (((0:Int)<=c)/\(c<(a.size:Int))) <|
 T.call Tryz.prog 120 [.string b,.int .u8 (cK a c)] false [(false,[.int .i64])] fun d =>
 cond (decide (d>=(0:Int)))
 (T.again 0 [vI (IntKind.wrap .i64 (c+(1:Int)))])
 (T.ret (vI c)))
 (T.ret (vI c))
theorem CQ (a:YA) (b:YA):bI Tryz.prog [] Tryz.f103 [.string a,.string b]=IJ a b:=az
def qB (a:YA):T :=
 cond ((a.size:Int) != (2:Int))
 (T.ret (.tuple #[vI 0,.bool false,.bool false]))
 (T.need (((0:Int)<=(1:Int))/\((1:Int)<(a.size:Int))) <|
 T.need (((0:Int)<=(0:Int))/\((0:Int)<(a.size:Int))) <|
 cond ((cK a (0:Int))==(114:Int))
 (cond (decide ((bj ((bj (cK a (1:Int)))-(48:Int)))>=(0:Int)))
 (cond (decide ((bj ((bj (cK a (1:Int)))-(48:Int)))<(8:Int)))
 (T.ret (.tuple #[vI (bj ((bj (cK a (1:Int)))-(48:Int))),.bool false,.bool true]))
 (T.need (((0:Int)<=(0:Int))/\((0:Int)<(a.size:Int))) <|
 cond ((cK a (0:Int))==(122:Int))
 (cond (decide ((bj ((bj (cK a (1:Int)))-(48:Int)))>=(0:Int)))
 (cond (decide ((bj ((bj (cK a (1:Int)))-(48:Int)))<(4:Int)))
 (T.ret (.tuple #[vI (bj ((bj (cK a (1:Int)))-(48:Int))),.bool true,.bool true]))
 (T.ret (.tuple #[vI 0,.bool false,.bool false])))
 (T.ret (.tuple #[vI 0,.bool false,.bool false])))
 (T.ret (.tuple #[vI 0,.bool false,.bool false]))))
 (T.need (((0:Int)<=(0:Int))/\((0:Int)<(a.size:Int))) <|
 cond ((cK a (0:Int))==(122:Int))
 (cond (decide ((bj ((bj (cK a (1:Int)))-(48:Int)))>=(0:Int)))
 (cond (decide ((bj ((bj (cK a (1:Int)))-(48:Int)))<(4:Int)))
 (T.ret (.tuple #[vI (bj ((bj (cK a (1:Int)))-(48:Int))),.bool true,.bool true]))
 (T.ret (.tuple #[vI 0,.bool false,.bool false])))
 (T.ret (.tuple #[vI 0,.bool false,.bool false])))
 (T.ret (.tuple #[vI 0,.bool false,.bool false]))))
 (T.need (((0:Int)<=(0:Int))/\((0:Int)<(a.size:Int))) <|
 cond ((cK a (0:Int))==(122:Int))
 (cond (decide ((bj ((bj (cK a (1:Int)))-(48:Int)))>=(0:Int)))
 (cond (decide ((bj ((bj (cK a (1:Int)))-(48:Int)))<(4:Int)))
 (T.ret (.tuple #[vI (bj ((bj (cK a (1:Int)))-(48:Int))),.bool true,.bool true]))
 (T.ret (.tuple #[vI 0,.bool false,.bool false])))
 (T.ret (.tuple #[vI 0,.bool false,.bool false])))
 (T.ret (.tuple #[vI 0,.bool false,.bool false]))))
theorem vh (a:YA):bI Tryz.prog [] Tryz.f102 [.string a]=qB a:=az
def xC (a:YA):T :=
 bF 102 [.string a] true [aM,bT,bT] fun b c d =>
 cond (!((ByteArray.toList a)==[]))
 (cond (decide ((a.size:Int)<=(32:Int)))
 (cn 103 [.string a,.string ⟨#[97,98,99,100,101,102,103,104,105,106,107,108,109,110,111,112,113,114,115,116,117,118,119,120,121,122,65,66,67,68,69,70,71,72,73,74,75,76,77,78,79,80,81,82,83,84,85,86,87,88,89,90,95]⟩] fun e =>
 cond (decide (e>(0:Int)))
 (cn 103 [.string a,.string ⟨#[97,98,99,100,101,102,103,104,105,106,107,108,109,110,111,112,113,114,115,116,117,118,119,120,121,122,65,66,67,68,69,70,71,72,73,74,75,76,77,78,79,80,81,82,83,84,85,86,87,88,89,90,95,48,49,50,51,52,53,54,55,56,57]⟩] fun f =>
 cond (f==(a.size:Int))
 (T.ret (.bool (!d)))
 bo)
 bo)
 bo)
 bo
theorem yR (a:YA):bI Tryz.prog [] Tryz.f79 [.string a]=xC a:=az
def gS (a:YA):T :=
 cond ((a.size:Int) != (2:Int))
 (T.ret (.tuple #[vI 0,.bool false,.bool false]))
 (T.need (((0:Int)<=(1:Int))/\((1:Int)<(a.size:Int))) <|
 T.need (((0:Int)<=(0:Int))/\((0:Int)<(a.size:Int))) <|
 cond ((cK a (0:Int))==(114:Int))
 (cond (decide ((bj ((bj (cK a (1:Int)))-(48:Int)))>=(0:Int)))
 (cond (decide ((bj ((bj (cK a (1:Int)))-(48:Int)))<=(7:Int)))
 (T.ret (.tuple #[vI (bj ((bj (cK a (1:Int)))-(48:Int))),.bool false,.bool true]))
 (T.need (((0:Int)<=(0:Int))/\((0:Int)<(a.size:Int))) <|
 cond ((cK a (0:Int))==(122:Int))
 (cond (decide ((bj ((bj (cK a (1:Int)))-(48:Int)))>=(0:Int)))
 (cond (decide ((bj ((bj (cK a (1:Int)))-(48:Int)))<=(3:Int)))
 (T.ret (.tuple #[vI (bj ((bj (cK a (1:Int)))-(48:Int))),.bool true,.bool true]))
 (T.ret (.tuple #[vI 0,.bool false,.bool false])))
 (T.ret (.tuple #[vI 0,.bool false,.bool false])))
 (T.ret (.tuple #[vI 0,.bool false,.bool false]))))
 (T.need (((0:Int)<=(0:Int))/\((0:Int)<(a.size:Int))) <|
 cond ((cK a (0:Int))==(122:Int))
 (cond (decide ((bj ((bj (cK a (1:Int)))-(48:Int)))>=(0:Int)))
 (cond (decide ((bj ((bj (cK a (1:Int)))-(48:Int)))<=(3:Int)))
 (T.ret (.tuple #[vI (bj ((bj (cK a (1:Int)))-(48:Int))),.bool true,.bool true]))
 (T.ret (.tuple #[vI 0,.bool false,.bool false])))
 (T.ret (.tuple #[vI 0,.bool false,.bool false])))
 (T.ret (.tuple #[vI 0,.bool false,.bool false]))))
 (T.need (((0:Int)<=(0:Int))/\((0:Int)<(a.size:Int))) <|
 cond ((cK a (0:Int))==(122:Int))
 (cond (decide ((bj ((bj (cK a (1:Int)))-(48:Int)))>=(0:Int)))
 (cond (decide ((bj ((bj (cK a (1:Int)))-(48:Int)))<=(3:Int)))
 (T.ret (.tuple #[vI (bj ((bj (cK a (1:Int)))-(48:Int))),.bool true,.bool true]))
 (T.ret (.tuple #[vI 0,.bool false,.bool false])))
 (T.ret (.tuple #[vI 0,.bool false,.bool false])))
 (T.ret (.tuple #[vI 0,.bool false,.bool false]))))
theorem kZ (a:YA):bI Tryz.prog [] Tryz.f77 [.string a]=gS a:=az
def jB (a:YA):T :=
 cond (decide ((a.size:Int)<(1:Int)))
 bo
 (cond (decide ((a.size:Int)>(32:Int)))
 bo
 (T.need (((0:Int)<=(0:Int))/\((0:Int)<(a.size:Int))) <|
 aU 75 [.int .u8 (cK a (0:Int))] fun b =>
 cond (!b)
 bo
 (T.loop [bT,aM] [.bool false,vI 0] fun c d =>
 cond (decide (d<(a.size:Int)))
 (T.need (((0:Int)<=d)/\(d<(a.size:Int))) <|
 aU 75 [.int .u8 (cK a d)] fun e =>
 cond (!e)
 (T.need (((0:Int)<=d)/\(d<(a.size:Int))) <|
 aU 76 [.int .u8 (cK a d)] fun f =>
 cond (!f)
 bo
 (T.again 0 [.bool c,bh d]))
 (T.again 0 [.bool c,bh d]))
 (bF 77 [.string a] true [aM,bT,bT] fun e f g =>
 T.ret (.bool (!g))))))
theorem nX (a:YA):bI Tryz.prog [] Tryz.f35 [.string a]=jB a:=az
def iM (a:Int):T :=
 cond (decide (a>=(97:Int)))
 (cond (decide (a<=(122:Int)))
 dI
 (cond (decide (a>=(65:Int)))
 (cond (decide (a<=(90:Int)))
 dI
 (T.ret (.bool (a==(95:Int)))))
 (T.ret (.bool (a==(95:Int))))))
 (cond (decide (a>=(65:Int)))
 (cond (decide (a<=(90:Int)))
 dI
 (T.ret (.bool (a==(95:Int)))))
 (T.ret (.bool (a==(95:Int)))))
theorem mS (a:Int):bI Tryz.prog [] Tryz.f75 [.int .u8 a]=iM a:=az
def jD (a:Int):T :=
 cond (decide (a>=(48:Int)))
 (T.ret (.bool (decide (a<=(57:Int)))))
 bo
theorem nQ (a:Int):bI Tryz.prog [] Tryz.f76 [.int .u8 a]=jD a:=az
def xd (a:Option Nat) (b:Int):T :=
 T.new [bi,.int .u32 0] 60 fun c =>
 T.new [bi,.int .u32 0] 60 fun d =>
 T.aD d [bi,.int .u32 b] <|
 bF 109 [.map a] false [(false,[.func #[86] #[] false])] fun (e:YB) =>
 bF 108 [e] false [(false,[.slice 9])] fun f g h =>
 T.loop [aM] [vI 0] fun i =>
 bm i g
 (aX i g f fun j =>
 T.ah (j.add (aH i 1)) [.string] fun k =>
 bK (Instr.lookup 170 (.map a) (.string k) false) false [(false,[.int .u32])] fun l =>
 cond (l != (0:Int))
 (T.ah d [.slice 66] fun m n o =>
 bK (Instr.lookup 170 (.map a) (.string k) false) false [(false,[.int .u32])] fun p =>
 bk (Instr.buildSlice 57 1 #[(0,.agg #[.string k,.int .u32 p])]) fun q r s =>
 bk (Builtin.append_ #[57,57] 57 #[.slice m n o,.slice q r s]) fun t u v =>
 T.aD d [.slice t u v] <|
 T.again 0 [bh i])
 (T.again 0 [bh i]))
 (T.ah d [.slice 66,.int .u32] fun j k l m =>
 T.aD c [.slice j k l,.int .u32 m] <|
 T.ah c [.slice 66,.int .u32] fun n o p q =>
 T.ret (.agg #[.slice n o p,.int .u32 q]))
theorem ze (a:Option Nat) (b:Int):bI Tryz.prog [] Tryz.f110 [.map a,.int .u32 b]=xd a b:=az
def zm (a:Option YC) (b c:Nat) (d:Int) (e:Option YC) (f g:Nat) (h:Int):T :=
 T.new [.slice a b c,.int .u32 d] 60 fun i =>
 T.new [.slice e f g,.int .u32 h] 60 fun j =>
 T.new [bi,.int .u32 0] 60 fun k =>
 bK (Instr.makeMap 170 none) false [(false,[.map 0 0])] fun l =>
 T.ah i [.slice 66] fun m n o =>
 T.ah j [.slice 66] fun p q r =>
 bk (Instr.buildSlice 175 2 #[(0,.slice m n o),(1,.slice p q r)]) fun s t u =>
 T.loop [aM] [vI 0] fun v =>
 bm v t
 (aX v t s fun w =>
 T.ah (w.add (aH v 1)) [.slice 66] fun x y z =>
 T.loop [aM] [vI 0] fun A =>
 bm A y
 (aX A y x fun B =>
 T.ah (B.add (aH A 2)) [.string,.int .u32] fun C D =>
 T.new [bU,.int .u32 0] 66 fun E =>
 T.aD E [.string C,.int .u32 D] <|
 T.ah E [.string] fun F =>
 bK (Instr.lookup 170 (.map l) (.string F) false) false [(false,[.int .u32])] fun G =>
 T.ah (E.add 1) [.int .u32] fun H =>
 T.ec Tryz.prog (Instr.mapUpdate 170 (.map l) (.string F) (.int .u32 (IntKind.wrap .u32 (G+H)))) <|
 T.again 1 [bh A])
 (T.again 0 [bh v]))
 (T.ah (i.add 1) [.int .u32] fun w =>
 T.ah (j.add 1) [.int .u32] fun x =>
 bF 110 [.map l,.int .u32 (IntKind.wrap .u32 (w+x))] false [(true,[.slice 66,.int .u32])] fun y z A B =>
 T.aD k [.slice y z A,.int .u32 B] <|
 T.ah k [.slice 66,.int .u32] fun C D E F =>
 T.ret (.agg #[.slice C D E,.int .u32 F]))
theorem As (a:Option YC) (b c:Nat) (d:Int) (e:Option YC) (f g:Nat) (h:Int):bI Tryz.prog [] Tryz.f87 [.agg #[.slice a b c,.int .u32 d],.agg #[.slice e f g,.int .u32 h]]=zm a b c d e f g h:=az
def jF (a:Option YC) (b c:Nat) (d:Int):T :=
 T.new [.slice a b c,.int .u32 d] 60 fun e =>
 T.loop [bT,aM] [.bool false,vI 0] fun f g =>
 T.ah e [.slice 66] fun h i j =>
 bm g i
 (T.ah e [.slice 66] fun k l m =>
 aX g l k fun n =>
 T.ah (n.add (aH g 2)) [.string] fun o =>
 aU 35 [.string o] fun p =>
 T.aY [(e,[.slice k l m])] <|
 cond (!p)
 bo
 (T.ah e [.slice 66] fun q r s =>
 aX g r q fun t =>
 T.ah ((t.add (aH g 2)).add 1) [.int .u32] fun u =>
 cond (u==(0:Int))
 bo
 (cond (decide (g>(0:Int)))
 (T.ah e [.slice 66] fun v w x =>
 aX g w v fun y =>
 T.ah (y.add (aH g 2)) [.string] fun z =>
 T.ah e [.slice 66] fun A B C =>
 T.need (((0:Int)<=(bj (g-(1:Int))))/\((bj (g-(1:Int)))<(B:Int))) <|
 T.bd A fun D =>
 T.ah (D.add ((Int.toNat (bj (g-(1:Int))))*2)) [.string] fun E =>
 cond ((Op.bytesLess (ByteArray.toList z) (ByteArray.toList E)) || ((ByteArray.toList z)==(ByteArray.toList E)))
 bo
 (T.again 0 [.bool f,bh g]))
 (T.again 0 [.bool f,bh g]))))
 dI
theorem n' (a:Option YC) (b c:Nat) (d:Int):bI Tryz.prog [] Tryz.f36 [.agg #[.slice a b c,.int .u32 d]]=jF a b c d:=az
def vf (a:Option YC) (b c:Nat) (d:Int):T :=
 T.new [.slice a b c,.int .u32 d] 60 fun e =>
 T.ah e [.slice 66] fun f g h =>
 T.loop [bT,aM] [.bool false,vI 0] fun i j =>
 bm j g
 (aX j g f fun k =>
 T.ah (k.add (aH j 2)) [.string,.int .u32] fun l m =>
 T.new [bU,.int .u32 0] 66 fun n =>
 T.aD n [.string l,.int .u32 m] <|
 T.ah (n.add 1) [.int .u32] fun o =>
 cond (o==(0:Int))
 bo
 (T.ah n [.string] fun p =>
 aU 79 [.string p] fun q =>
 T.aY [((n.add 1),[.int .u32 o])] <|
 cond (!q)
 bo
 (cond (decide (j>(0:Int)))
 (T.ah n [.string] fun r =>
 T.ah e [.slice 66] fun s t u =>
 T.need (((0:Int)<=(bj (j-(1:Int))))/\((bj (j-(1:Int)))<(t:Int))) <|
 T.bd s fun v =>
 T.ah (v.add ((Int.toNat (bj (j-(1:Int))))*2)) [.string] fun w =>
 cond ((Op.bytesLess (ByteArray.toList r) (ByteArray.toList w)) || ((ByteArray.toList r)==(ByteArray.toList w)))
 bo
 (T.again 0 [.bool i,bh j]))
 (T.again 0 [.bool i,bh j]))))
 dI
theorem xW (a:Option YC) (b c:Nat) (d:Int):bI Tryz.prog [] Tryz.f80 [.agg #[.slice a b c,.int .u32 d]]=vf a b c d:=az
def xA (a:Option YC) (b c:Nat) (d:Int) (e:Option YC) (f g:Nat) (h:Int):T :=
 T.new [.slice a b c,.int .u32 d] 60 fun i =>
 T.new [.slice e f g,.int .u32 h] 60 fun j =>
 T.ah (i.add 1) [.int .u32] fun k =>
 T.ah (j.add 1) [.int .u32] fun l =>
 cond (k==l)
 (T.ah i [.slice 66] fun m n o =>
 T.ah j [.slice 66] fun p q r =>
 aU 119 [.slice m n o,.slice p q r] fun s =>
 T.ret (.bool s))
 bo
theorem y6 (a:Option YC) (b c:Nat) (d:Int) (e:Option YC) (f g:Nat) (h:Int):bI Tryz.prog [] Tryz.f101 [.agg #[.slice a b c,.int .u32 d],.agg #[.slice e f g,.int .u32 h]]=xA a b c d e f g h:=az
def j6 (a:Option YC) (b c:Nat) (d:Int) (e:Option YC) (f g:Nat) (h:Int):T :=
 T.new [.slice a b c,.int .u32 d] 60 fun i =>
 T.new [.slice e f g,.int .u32 h] 60 fun j =>
 T.ah (i.add 1) [.int .u32] fun k =>
 T.ah (j.add 1) [.int .u32] fun l =>
 cond (k != l)
 bo
 (T.ah i [.slice 66] fun m n o =>
 T.ah j [.slice 66] fun p q r =>
 cond ((n:Int) != (q:Int))
 bo
 (T.loop [bT,aM] [.bool false,vI 0] fun s t =>
 T.ah i [.slice 66] fun u v w =>
 bm t v
 (T.ah i [.slice 66] fun x y z =>
 aX t y x fun A =>
 T.ah (A.add (aH t 2)) [.string,.int .u32] fun B C =>
 T.ah j [.slice 66] fun D E F =>
 aX t E D fun G =>
 T.ah (G.add (aH t 2)) [.string,.int .u32] fun H I =>
 dT (Sx.iK (BinOp.neq) 66 (Operand.tmp 31) (Operand.tmp 36) (.agg #[.string B,.int .u32 C]) (.agg #[.string H,.int .u32 I])) fun J =>
 T.aY [(j,[.slice D E F]),(i,[.slice x y z])] <|
 cond J
 bo
 (T.again 0 [.bool s,bh t]))
 dI))
theorem oQ (a:Option YC) (b c:Nat) (d:Int) (e:Option YC) (f g:Nat) (h:Int):bI Tryz.prog [] Tryz.f88 [.agg #[.slice a b c,.int .u32 d],.agg #[.slice e f g,.int .u32 h]]=j6 a b c d e f g h:=az
def jK (a:Option YC) (b c:Nat) (d:Int) (e:Int):T :=
 T.new [.slice a b c,.int .u32 d] 60 fun f =>
 T.new [bi,.int .u32 0] 60 fun g =>
 T.ah (f.add 1) [.int .u32] fun h =>
 T.new [bi,.int .u32 0] 60 fun i =>
 T.aD i [bi,.int .u32 (IntKind.wrap .u32 (h*e))] <|
 T.loop [aM] [vI 0] fun j =>
 T.ah f [.slice 66] fun k l m =>
 bm j l
 (T.ah f [.slice 66] fun n o p =>
 aX j o n fun q =>
 T.ah ((q.add (aH j 2)).add 1) [.int .u32] fun r =>
 cond ((IntKind.wrap .u32 (r*e)) != (0:Int))
 (T.ah i [.slice 66] fun s t u =>
 T.ah f [.slice 66] fun v w x =>
 aX j w v fun y =>
 T.ah (y.add (aH j 2)) [.string] fun z =>
 bk (Instr.buildSlice 57 1 #[(0,.agg #[.string z,.int .u32 (IntKind.wrap .u32 (r*e))])]) fun A B C =>
 T.aY [((y.add (aH j 2)),[.string z]),(f,[.slice v w x]),(i,[.slice s t u])] <|
 bk (Builtin.append_ #[57,57] 57 #[.slice s t u,.slice A B C]) fun D E F =>
 T.aY [((y.add (aH j 2)),[.string z]),(f,[.slice v w x])] <|
 T.aD i [.slice D E F] <|
 T.again 0 [bh j])
 (T.again 0 [bh j]))
 (T.ah i [.slice 66,.int .u32] fun n o p q =>
 T.aD g [.slice n o p,.int .u32 q] <|
 T.ah g [.slice 66,.int .u32] fun r s t u =>
 T.ret (.agg #[.slice r s t,.int .u32 u]))
theorem ot (a:Option YC) (b c:Nat) (d:Int) (e:Int):bI Tryz.prog [] Tryz.f116 [.agg #[.slice a b c,.int .u32 d],.int .u32 e]=jK a b c d e:=az
def dQ (a:Option YC) (b c:Nat) (d:Option YC) (e f:Nat):T :=
 cond ((b:Int) != (e:Int))
 bo
 (T.loop [bT,aM] [.bool false,vI 0] fun g h =>
 bm h b
 (aX h b a fun i =>
 T.ah (i.add (aH h 2)) [.string,.int .u32] fun j k =>
 aX h e d fun l =>
 T.ah (l.add (aH h 2)) [.string,.int .u32] fun m n =>
 dT (Sx.iK (BinOp.neq) 66 (Operand.tmp 19) (Operand.tmp 23) (.agg #[.string j,.int .u32 k]) (.agg #[.string m,.int .u32 n])) fun o =>
 cond o
 bo
 (T.again 0 [.bool g,bh h]))
 dI)
theorem fO (a:Option YC) (b c:Nat) (d:Option YC) (e f:Nat):bI Tryz.prog [] Tryz.f119 [.slice a b c,.slice d e f]=dQ a b c d e f:=az
def lh (a:Option YC) (b c:Nat) (d:Int) (e:Option YC) (f g:Nat) (h:Int):T :=
 T.new [.slice a b c,.int .u32 d] 60 fun i =>
 T.new [.slice e f g,.int .u32 h] 60 fun j =>
 T.new [bi,.int .u32 0] 60 fun k =>
 T.ah (i.add 1) [.int .u32] fun l =>
 T.ah (j.add 1) [.int .u32] fun m =>
 T.new [bi,.int .u32 0] 60 fun n =>
 T.aD n [bi,.int .u32 (IntKind.wrap .u32 (l+m))] <|
 T.loop [aM,aM] [vI 0,vI 0] fun o p =>
 T.join [bT]
 (T.ah i [.slice 66] fun q r s =>
 bm o r
 (T.again 1 [.bool true])
 (T.ah j [.slice 66] fun t u v =>
 T.again 1 [.bool (decide (p<(u:Int)))])) fun q =>
 cond q
 (T.join [bT]
 (T.ah j [.slice 66] fun r s t =>
 cond (p==(s:Int))
 (T.again 1 [.bool true])
 (T.ah i [.slice 66] fun u v w =>
 bm o v
 (T.ah i [.slice 66] fun x y z =>
 aX o y x fun A =>
 T.ah (A.add (aH o 2)) [.string] fun B =>
 T.ah j [.slice 66] fun C D E =>
 aX p D C fun F =>
 T.ah (F.add (aH p 2)) [.string] fun G =>
 T.again 1 [.bool (Op.bytesLess (ByteArray.toList B) (ByteArray.toList G))])
 (T.again 1 [.bool false]))) fun r =>
 cond r
 (T.ah n [.slice 66] fun s t u =>
 T.ah i [.slice 66] fun v w x =>
 aX o w v fun y =>
 T.ah (y.add (aH o 2)) [.string,.int .u32] fun z A =>
 bk (Instr.buildSlice 57 1 #[(0,.agg #[.string z,.int .u32 A])]) fun B C D =>
 T.aY [(i,[.slice v w x]),(n,[.slice s t u])] <|
 bk (Builtin.append_ #[57,57] 57 #[.slice s t u,.slice B C D]) fun E F G =>
 T.aY [((y.add (aH o 2)),[.string z,.int .u32 A]),(i,[.slice v w x])] <|
 T.aD n [.slice E F G] <|
 T.again 0 [bh o,vI p])
 (T.join [bT]
 (T.ah i [.slice 66] fun s t u =>
 cond (o==(t:Int))
 (T.again 1 [.bool true])
 (T.ah j [.slice 66] fun v w x =>
 aX p w v fun y =>
 T.ah (y.add (aH p 2)) [.string] fun z =>
 T.ah i [.slice 66] fun A B C =>
 aX o B A fun D =>
 T.ah (D.add (aH o 2)) [.string] fun E =>
 T.again 1 [.bool (Op.bytesLess (ByteArray.toList z) (ByteArray.toList E))])) fun s =>
 cond s
 (T.ah n [.slice 66] fun t u v =>
 T.ah j [.slice 66] fun w x y =>
 aX p x w fun z =>
 T.ah (z.add (aH p 2)) [.string,.int .u32] fun A B =>
 bk (Instr.buildSlice 57 1 #[(0,.agg #[.string A,.int .u32 B])]) fun C D E =>
 T.aY [(j,[.slice w x y]),(n,[.slice t u v])] <|
 bk (Builtin.append_ #[57,57] 57 #[.slice t u v,.slice C D E]) fun F G H =>
 T.aY [((z.add (aH p 2)),[.string A,.int .u32 B]),(j,[.slice w x y])] <|
 T.aD n [.slice F G H] <|
 T.again 0 [vI o,bh p])
 (T.ah i [.slice 66] fun t u v =>
 aX o u t fun w =>
 T.ah ((w.add (aH o 2)).add 1) [.int .u32] fun x =>
 T.ah j [.slice 66] fun y z A =>
 aX p z y fun B =>
 T.ah ((B.add (aH p 2)).add 1) [.int .u32] fun C =>
 T.join []
 (cond ((IntKind.wrap .u32 (x+C)) != (0:Int))
 (T.ah n [.slice 66] fun D E F =>
 T.ah i [.slice 66] fun G H I =>
 aX o H G fun J =>
 T.ah (J.add (aH o 2)) [.string] fun K =>
 bk (Instr.buildSlice 57 1 #[(0,.agg #[.string K,.int .u32 (IntKind.wrap .u32 (x+C))])]) fun L M N =>
 T.aY [((J.add (aH o 2)),[.string K]),(i,[.slice G H I]),(n,[.slice D E F])] <|
 bk (Builtin.append_ #[57,57] 57 #[.slice D E F,.slice L M N]) fun O P Q =>
 T.aY [((J.add (aH o 2)),[.string K]),(i,[.slice G H I])] <|
 T.aD n [.slice O P Q] <|
 T.again 1 [])
 (T.again 1 [])) <| T.again 0 [bh o,bh p])))
 (T.ah n [.slice 66,.int .u32] fun r s t u =>
 T.aD k [.slice r s t,.int .u32 u] <|
 T.ah k [.slice 66,.int .u32] fun v w x y =>
 T.ret (.agg #[.slice v w x,.int .u32 y]))
theorem qb (a:Option YC) (b c:Nat) (d:Int) (e:Option YC) (f g:Nat) (h:Int):bI Tryz.prog [4,5,8,1014] Tryz.f92 [.agg #[.slice a b c,.int .u32 d],.agg #[.slice e f g,.int .u32 h]]=lh a b c d e f g h:=az
end Go.Sx
