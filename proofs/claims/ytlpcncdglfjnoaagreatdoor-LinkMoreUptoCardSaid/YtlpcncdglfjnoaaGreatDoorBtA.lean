/- Trees of functions, each checked by the kernel against the code. No condition. -/
import Derived.Test.YtlpcncdglfjnoaaGreatDoorSxF
import Derived.Test.YtlpcncdglfjnoaaGreatDoorProg
import Derived.KernelRfl
set_option linter.all false
set_option maxRecDepth 100000
set_option maxHeartbeats 4000000
namespace Go.Sx
open Go.Proofs
def r9 (a:ZA) (b:Int):T :=
 T.call Tryz.prog 129 [.string a,.int .u8 b] false [(false,[.int .i64])] fun c =>
 T.ret (vI c)
theorem px (a:ZA) (b:Int):bI Tryz.prog [] Tryz.f120 [.string a,.int .u8 b]=r9 a b:=ax
def iD (a:ZA) (b:Int):T :=
 T.dY Tryz.prog (Sx.G7 144 #[.string a,.int .u8 b]) false [(false,[.int .i64])] fun c =>
 T.ret (vI c)
theorem gg (a:ZA) (b:Int):bI Tryz.prog [] Tryz.f129 [.string a,.int .u8 b]=iD a b:=ax
def JJ (a:ZA) (b:ZA):T :=
 T.loop [(false,[.int .i64])] [vI 0] fun c =>
 cond (decide (c<(a.size:Int)))
 (T.need (((0:Int)<=c)/\(c<(a.size:Int))) <|
 T.call Tryz.prog 120 [.string b,.int .u8 (cK a c)] false [(false,[.int .i64])] fun d =>
 cond (decide (d>=(0:Int)))
 (T.again 0 [vI (IntKind.wrap .i64 (c+(1:Int)))])
 (T.ret (vI c)))
 (T.ret (vI c))
theorem B5 (a:ZA) (b:ZA):bI Tryz.prog [] Tryz.f103 [.string a,.string b]=JJ a b:=ax
def qy (a:ZA):T :=
 cond ((a.size:Int) != (2:Int))
 (T.ret (.tuple #[vI 0,.bool false,.bool false]))
 (T.need (((0:Int)<=(1:Int))/\((1:Int)<(a.size:Int))) <|
 T.need (((0:Int)<=(0:Int))/\((0:Int)<(a.size:Int))) <|
 cond ((cK a (0:Int))==(114:Int))
 (cond (decide ((bi ((bi (cK a (1:Int)))-(48:Int)))>=(0:Int)))
 (cond (decide ((bi ((bi (cK a (1:Int)))-(48:Int)))<(8:Int)))
 (T.ret (.tuple #[vI (bi ((bi (cK a (1:Int)))-(48:Int))),.bool false,.bool true]))
 (T.need (((0:Int)<=(0:Int))/\((0:Int)<(a.size:Int))) <|
 cond ((cK a (0:Int))==(122:Int))
 (cond (decide ((bi ((bi (cK a (1:Int)))-(48:Int)))>=(0:Int)))
 (cond (decide ((bi ((bi (cK a (1:Int)))-(48:Int)))<(4:Int)))
 (T.ret (.tuple #[vI (bi ((bi (cK a (1:Int)))-(48:Int))),.bool true,.bool true]))
 (T.ret (.tuple #[vI 0,.bool false,.bool false])))
 (T.ret (.tuple #[vI 0,.bool false,.bool false])))
 (T.ret (.tuple #[vI 0,.bool false,.bool false]))))
 (T.need (((0:Int)<=(0:Int))/\((0:Int)<(a.size:Int))) <|
 cond ((cK a (0:Int))==(122:Int))
 (cond (decide ((bi ((bi (cK a (1:Int)))-(48:Int)))>=(0:Int)))
 (cond (decide ((bi ((bi (cK a (1:Int)))-(48:Int)))<(4:Int)))
 (T.ret (.tuple #[vI (bi ((bi (cK a (1:Int)))-(48:Int))),.bool true,.bool true]))
 (T.ret (.tuple #[vI 0,.bool false,.bool false])))
 (T.ret (.tuple #[vI 0,.bool false,.bool false])))
 (T.ret (.tuple #[vI 0,.bool false,.bool false]))))
 (T.need (((0:Int)<=(0:Int))/\((0:Int)<(a.size:Int))) <|
 cond ((cK a (0:Int))==(122:Int))
 (cond (decide ((bi ((bi (cK a (1:Int)))-(48:Int)))>=(0:Int)))
 (cond (decide ((bi ((bi (cK a (1:Int)))-(48:Int)))<(4:Int)))
 (T.ret (.tuple #[vI (bi ((bi (cK a (1:Int)))-(48:Int))),.bool true,.bool true]))
 (T.ret (.tuple #[vI 0,.bool false,.bool false])))
 (T.ret (.tuple #[vI 0,.bool false,.bool false])))
 (T.ret (.tuple #[vI 0,.bool false,.bool false]))))
theorem vp (a:ZA):bI Tryz.prog [] Tryz.f102 [.string a]=qy a:=ax
def xi (a:ZA):T :=
 bG 102 [.string a] true [aM,cd,cd] fun b c d =>
 cond (!((ByteArray.toList a)==[]))
 (cond (decide ((a.size:Int)<=(32:Int)))
 (cD 103 [.string a,.string ⟨#[97,98,99,100,101,102,103,104,105,106,107,108,109,110,111,112,113,114,115,116,117,118,119,120,121,122,65,66,67,68,69,70,71,72,73,74,75,76,77,78,79,80,81,82,83,84,85,86,87,88,89,90,95]⟩] fun e =>
 cond (decide (e>(0:Int)))
 (cD 103 [.string a,.string ⟨#[97,98,99,100,101,102,103,104,105,106,107,108,109,110,111,112,113,114,115,116,117,118,119,120,121,122,65,66,67,68,69,70,71,72,73,74,75,76,77,78,79,80,81,82,83,84,85,86,87,88,89,90,95,48,49,50,51,52,53,54,55,56,57]⟩] fun f =>
 cond (f==(a.size:Int))
 (T.ret (.bool (!d)))
 bt)
 bt)
 bt)
 bt
theorem zk (a:ZA):bI Tryz.prog [] Tryz.f79 [.string a]=xi a:=ax
def gP (a:ZA):T :=
 cond ((a.size:Int) != (2:Int))
 (T.ret (.tuple #[vI 0,.bool false,.bool false]))
 (T.need (((0:Int)<=(1:Int))/\((1:Int)<(a.size:Int))) <|
 T.need (((0:Int)<=(0:Int))/\((0:Int)<(a.size:Int))) <|
 cond ((cK a (0:Int))==(114:Int))
 (cond (decide ((bi ((bi (cK a (1:Int)))-(48:Int)))>=(0:Int)))
 (cond (decide ((bi ((bi (cK a (1:Int)))-(48:Int)))<=(7:Int)))
 (T.ret (.tuple #[vI (bi ((bi (cK a (1:Int)))-(48:Int))),.bool false,.bool true]))
 (T.need (((0:Int)<=(0:Int))/\((0:Int)<(a.size:Int))) <|
 cond ((cK a (0:Int))==(122:Int))
 (cond (decide ((bi ((bi (cK a (1:Int)))-(48:Int)))>=(0:Int)))
 (cond (decide ((bi ((bi (cK a (1:Int)))-(48:Int)))<=(3:Int)))
 (T.ret (.tuple #[vI (bi ((bi (cK a (1:Int)))-(48:Int))),.bool true,.bool true]))
 (T.ret (.tuple #[vI 0,.bool false,.bool false])))
 (T.ret (.tuple #[vI 0,.bool false,.bool false])))
 (T.ret (.tuple #[vI 0,.bool false,.bool false]))))
 (T.need (((0:Int)<=(0:Int))/\((0:Int)<(a.size:Int))) <|
 cond ((cK a (0:Int))==(122:Int))
 (cond (decide ((bi ((bi (cK a (1:Int)))-(48:Int)))>=(0:Int)))
 (cond (decide ((bi ((bi (cK a (1:Int)))-(48:Int)))<=(3:Int)))
 (T.ret (.tuple #[vI (bi ((bi (cK a (1:Int)))-(48:Int))),.bool true,.bool true]))
 (T.ret (.tuple #[vI 0,.bool false,.bool false])))
 (T.ret (.tuple #[vI 0,.bool false,.bool false])))
 (T.ret (.tuple #[vI 0,.bool false,.bool false]))))
 (T.need (((0:Int)<=(0:Int))/\((0:Int)<(a.size:Int))) <|
 cond ((cK a (0:Int))==(122:Int))
 (cond (decide ((bi ((bi (cK a (1:Int)))-(48:Int)))>=(0:Int)))
 (cond (decide ((bi ((bi (cK a (1:Int)))-(48:Int)))<=(3:Int)))
 (T.ret (.tuple #[vI (bi ((bi (cK a (1:Int)))-(48:Int))),.bool true,.bool true]))
 (T.ret (.tuple #[vI 0,.bool false,.bool false])))
 (T.ret (.tuple #[vI 0,.bool false,.bool false])))
 (T.ret (.tuple #[vI 0,.bool false,.bool false]))))
theorem kD (a:ZA):bI Tryz.prog [] Tryz.f77 [.string a]=gP a:=ax
def jA (a:ZA):T :=
 cond (decide ((a.size:Int)<(1:Int)))
 bt
 (cond (decide ((a.size:Int)>(32:Int)))
 bt
 (T.need (((0:Int)<=(0:Int))/\((0:Int)<(a.size:Int))) <|
 aU 75 [.int .u8 (cK a (0:Int))] fun b =>
 cond (!b)
 bt
 (T.loop [cd,aM] [.bool false,vI 0] fun c d =>
 cond (decide (d<(a.size:Int)))
 (T.need (((0:Int)<=d)/\(d<(a.size:Int))) <|
 aU 75 [.int .u8 (cK a d)] fun e =>
 cond (!e)
 (T.need (((0:Int)<=d)/\(d<(a.size:Int))) <|
 aU 76 [.int .u8 (cK a d)] fun f =>
 cond (!f)
 bt
 (T.again 0 [.bool c,bg d]))
 (T.again 0 [.bool c,bg d]))
 (bG 77 [.string a] true [aM,cd,cd] fun e f g =>
 T.ret (.bool (!g))))))
theorem nZ (a:ZA):bI Tryz.prog [] Tryz.f35 [.string a]=jA a:=ax
def iS (a:Int):T :=
 cond (decide (a>=(97:Int)))
 (cond (decide (a<=(122:Int)))
 dH
 (cond (decide (a>=(65:Int)))
 (cond (decide (a<=(90:Int)))
 dH
 (T.ret (.bool (a==(95:Int)))))
 (T.ret (.bool (a==(95:Int))))))
 (cond (decide (a>=(65:Int)))
 (cond (decide (a<=(90:Int)))
 dH
 (T.ret (.bool (a==(95:Int)))))
 (T.ret (.bool (a==(95:Int)))))
theorem mD (a:Int):bI Tryz.prog [] Tryz.f75 [.int .u8 a]=iS a:=ax
def jw (a:Int):T :=
 cond (decide (a>=(48:Int)))
 (T.ret (.bool (decide (a<=(57:Int)))))
 bt
theorem nv (a:Int):bI Tryz.prog [] Tryz.f76 [.int .u8 a]=jw a:=ax
def xo (a:Option Nat) (b:Int):T :=
 T.new [bd,.int .u32 0] 60 fun c =>
 T.new [bd,.int .u32 0] 60 fun d =>
 T.aC d [bd,.int .u32 b] <|
 bG 109 [.map a] false [(false,[.func #[86] #[] false])] fun (e:ZB) =>
 bG 108 [e] false [(false,[.slice 9])] fun f g h =>
 T.loop [aM] [vI 0] fun i =>
 bq i g
 (aZ i g f fun j =>
 T.ah (j.add (aK i 1)) [.string] fun k =>
 bK (Instr.lookup 170 (.map a) (.string k) false) false [(false,[.int .u32])] fun l =>
 cond (l != (0:Int))
 (T.ah d [.slice 66] fun m n o =>
 bK (Instr.lookup 170 (.map a) (.string k) false) false [(false,[.int .u32])] fun p =>
 bh (Instr.buildSlice 57 1 #[(0,.agg #[.string k,.int .u32 p])]) fun q r s =>
 bh (Builtin.append_ #[57,57] 57 #[.slice m n o,.slice q r s]) fun t u v =>
 T.aC d [.slice t u v] <|
 T.again 0 [bg i])
 (T.again 0 [bg i]))
 (T.ah d [.slice 66,.int .u32] fun j k l m =>
 T.aC c [.slice j k l,.int .u32 m] <|
 T.ah c [.slice 66,.int .u32] fun n o p q =>
 T.ret (.agg #[.slice n o p,.int .u32 q]))
theorem yZ (a:Option Nat) (b:Int):bI Tryz.prog [] Tryz.f110 [.map a,.int .u32 b]=xo a b:=ax
def yu (a:Option ZC) (b c:Nat) (d:Int) (e:Option ZC) (f g:Nat) (h:Int):T :=
 T.new [.slice a b c,.int .u32 d] 60 fun i =>
 T.new [.slice e f g,.int .u32 h] 60 fun j =>
 T.new [bd,.int .u32 0] 60 fun k =>
 bK (Instr.makeMap 170 none) false [(false,[.map 0 0])] fun l =>
 T.ah i [.slice 66] fun m n o =>
 T.ah j [.slice 66] fun p q r =>
 bh (Instr.buildSlice 175 2 #[(0,.slice m n o),(1,.slice p q r)]) fun s t u =>
 T.loop [aM] [vI 0] fun v =>
 bq v t
 (aZ v t s fun w =>
 T.ah (w.add (aK v 1)) [.slice 66] fun x y z =>
 T.loop [aM] [vI 0] fun A =>
 bq A y
 (aZ A y x fun B =>
 T.ah (B.add (aK A 2)) [.string,.int .u32] fun C D =>
 T.new [bS,.int .u32 0] 66 fun E =>
 T.aC E [.string C,.int .u32 D] <|
 T.ah E [.string] fun F =>
 bK (Instr.lookup 170 (.map l) (.string F) false) false [(false,[.int .u32])] fun G =>
 T.ah (E.add 1) [.int .u32] fun H =>
 T.ec Tryz.prog (Instr.mapUpdate 170 (.map l) (.string F) (.int .u32 (IntKind.wrap .u32 (G+H)))) <|
 T.again 1 [bg A])
 (T.again 0 [bg v]))
 (T.ah (i.add 1) [.int .u32] fun w =>
 T.ah (j.add 1) [.int .u32] fun x =>
 bG 110 [.map l,.int .u32 (IntKind.wrap .u32 (w+x))] false [(true,[.slice 66,.int .u32])] fun y z A B =>
 T.aC k [.slice y z A,.int .u32 B] <|
 T.ah k [.slice 66,.int .u32] fun C D E F =>
 T.ret (.agg #[.slice C D E,.int .u32 F]))
theorem AE (a:Option ZC) (b c:Nat) (d:Int) (e:Option ZC) (f g:Nat) (h:Int):bI Tryz.prog [] Tryz.f87 [.agg #[.slice a b c,.int .u32 d],.agg #[.slice e f g,.int .u32 h]]=yu a b c d e f g h:=ax
def jM (a:Option ZC) (b c:Nat) (d:Int):T :=
 T.new [.slice a b c,.int .u32 d] 60 fun e =>
 T.loop [cd,aM] [.bool false,vI 0] fun f g =>
 T.ah e [.slice 66] fun h i j =>
 bq g i
 (T.ah e [.slice 66] fun k l m =>
 aZ g l k fun n =>
 T.ah (n.add (aK g 2)) [.string] fun o =>
 aU 35 [.string o] fun p =>
 T.bf [(e,[.slice k l m])] <|
 cond (!p)
 bt
 (T.ah e [.slice 66] fun q r s =>
 aZ g r q fun t =>
 T.ah ((t.add (aK g 2)).add 1) [.int .u32] fun u =>
 cond (u==(0:Int))
 bt
 (cond (decide (g>(0:Int)))
 (T.ah e [.slice 66] fun v w x =>
 aZ g w v fun y =>
 T.ah (y.add (aK g 2)) [.string] fun z =>
 T.ah e [.slice 66] fun A B C =>
 T.need (((0:Int)<=(bi (g-(1:Int))))/\((bi (g-(1:Int)))<(B:Int))) <|
 T.bk A fun D =>
 T.ah (D.add ((Int.toNat (bi (g-(1:Int))))*2)) [.string] fun E =>
 cond ((Op.bytesLess (ByteArray.toList z) (ByteArray.toList E)) || ((ByteArray.toList z)==(ByteArray.toList E)))
 bt
 (T.again 0 [.bool f,bg g]))
 (T.again 0 [.bool f,bg g]))))
 dH
theorem mT (a:Option ZC) (b c:Nat) (d:Int):bI Tryz.prog [] Tryz.f36 [.agg #[.slice a b c,.int .u32 d]]=jM a b c d:=ax
def vL (a:Option ZC) (b c:Nat) (d:Int):T :=
 T.new [.slice a b c,.int .u32 d] 60 fun e =>
 T.ah e [.slice 66] fun f g h =>
 T.loop [cd,aM] [.bool false,vI 0] fun i j =>
 bq j g
 (aZ j g f fun k =>
 T.ah (k.add (aK j 2)) [.string,.int .u32] fun l m =>
 T.new [bS,.int .u32 0] 66 fun n =>
 T.aC n [.string l,.int .u32 m] <|
 T.ah (n.add 1) [.int .u32] fun o =>
 cond (o==(0:Int))
 bt
 (T.ah n [.string] fun p =>
 aU 79 [.string p] fun q =>
 T.bf [((n.add 1),[.int .u32 o])] <|
 cond (!q)
 bt
 (cond (decide (j>(0:Int)))
 (T.ah n [.string] fun r =>
 T.ah e [.slice 66] fun s t u =>
 T.need (((0:Int)<=(bi (j-(1:Int))))/\((bi (j-(1:Int)))<(t:Int))) <|
 T.bk s fun v =>
 T.ah (v.add ((Int.toNat (bi (j-(1:Int))))*2)) [.string] fun w =>
 cond ((Op.bytesLess (ByteArray.toList r) (ByteArray.toList w)) || ((ByteArray.toList r)==(ByteArray.toList w)))
 bt
 (T.again 0 [.bool i,bg j]))
 (T.again 0 [.bool i,bg j]))))
 dH
theorem xS (a:Option ZC) (b c:Nat) (d:Int):bI Tryz.prog [] Tryz.f80 [.agg #[.slice a b c,.int .u32 d]]=vL a b c d:=ax
def xu (a:Option ZC) (b c:Nat) (d:Int) (e:Option ZC) (f g:Nat) (h:Int):T :=
 T.new [.slice a b c,.int .u32 d] 60 fun i =>
 T.new [.slice e f g,.int .u32 h] 60 fun j =>
 T.ah (i.add 1) [.int .u32] fun k =>
 T.ah (j.add 1) [.int .u32] fun l =>
 cond (k==l)
 (T.ah i [.slice 66] fun m n o =>
 T.ah j [.slice 66] fun p q r =>
 aU 119 [.slice m n o,.slice p q r] fun s =>
 T.ret (.bool s))
 bt
theorem yL (a:Option ZC) (b c:Nat) (d:Int) (e:Option ZC) (f g:Nat) (h:Int):bI Tryz.prog [] Tryz.f101 [.agg #[.slice a b c,.int .u32 d],.agg #[.slice e f g,.int .u32 h]]=xu a b c d e f g h:=ax
def j6 (a:Option ZC) (b c:Nat) (d:Int) (e:Option ZC) (f g:Nat) (h:Int):T :=
 T.new [.slice a b c,.int .u32 d] 60 fun i =>
 T.new [.slice e f g,.int .u32 h] 60 fun j =>
 T.ah (i.add 1) [.int .u32] fun k =>
 T.ah (j.add 1) [.int .u32] fun l =>
 cond (k != l)
 bt
 (T.ah i [.slice 66] fun m n o =>
 T.ah j [.slice 66] fun p q r =>
 cond ((n:Int) != (q:Int))
 bt
 (T.loop [cd,aM] [.bool false,vI 0] fun s t =>
 T.ah i [.slice 66] fun u v w =>
 bq t v
 (T.ah i [.slice 66] fun x y z =>
 aZ t y x fun A =>
 T.ah (A.add (aK t 2)) [.string,.int .u32] fun B C =>
 T.ah j [.slice 66] fun D E F =>
 aZ t E D fun G =>
 T.ah (G.add (aK t 2)) [.string,.int .u32] fun H I =>
 dQ (Sx.iF (BinOp.neq) 66 (Operand.tmp 31) (Operand.tmp 36) (.agg #[.string B,.int .u32 C]) (.agg #[.string H,.int .u32 I])) fun J =>
 T.bf [(j,[.slice D E F]),(i,[.slice x y z])] <|
 cond J
 bt
 (T.again 0 [.bool s,bg t]))
 dH))
theorem oN (a:Option ZC) (b c:Nat) (d:Int) (e:Option ZC) (f g:Nat) (h:Int):bI Tryz.prog [] Tryz.f88 [.agg #[.slice a b c,.int .u32 d],.agg #[.slice e f g,.int .u32 h]]=j6 a b c d e f g h:=ax
def ju (a:Option ZC) (b c:Nat) (d:Int) (e:Int):T :=
 T.new [.slice a b c,.int .u32 d] 60 fun f =>
 T.new [bd,.int .u32 0] 60 fun g =>
 T.ah (f.add 1) [.int .u32] fun h =>
 T.new [bd,.int .u32 0] 60 fun i =>
 T.aC i [bd,.int .u32 (IntKind.wrap .u32 (h*e))] <|
 T.loop [aM] [vI 0] fun j =>
 T.ah f [.slice 66] fun k l m =>
 bq j l
 (T.ah f [.slice 66] fun n o p =>
 aZ j o n fun q =>
 T.ah ((q.add (aK j 2)).add 1) [.int .u32] fun r =>
 cond ((IntKind.wrap .u32 (r*e)) != (0:Int))
 (T.ah i [.slice 66] fun s t u =>
 T.ah f [.slice 66] fun v w x =>
 aZ j w v fun y =>
 T.ah (y.add (aK j 2)) [.string] fun z =>
 bh (Instr.buildSlice 57 1 #[(0,.agg #[.string z,.int .u32 (IntKind.wrap .u32 (r*e))])]) fun A B C =>
 T.bf [((y.add (aK j 2)),[.string z]),(f,[.slice v w x]),(i,[.slice s t u])] <|
 bh (Builtin.append_ #[57,57] 57 #[.slice s t u,.slice A B C]) fun D E F =>
 T.bf [((y.add (aK j 2)),[.string z]),(f,[.slice v w x])] <|
 T.aC i [.slice D E F] <|
 T.again 0 [bg j])
 (T.again 0 [bg j]))
 (T.ah i [.slice 66,.int .u32] fun n o p q =>
 T.aC g [.slice n o p,.int .u32 q] <|
 T.ah g [.slice 66,.int .u32] fun r s t u =>
 T.ret (.agg #[.slice r s t,.int .u32 u]))
theorem nl (a:Option ZC) (b c:Nat) (d:Int) (e:Int):bI Tryz.prog [] Tryz.f116 [.agg #[.slice a b c,.int .u32 d],.int .u32 e]=ju a b c d e:=ax
def dP (a:Option ZC) (b c:Nat) (d:Option ZC) (e f:Nat):T :=
 cond ((b:Int) != (e:Int))
 bt
 (T.loop [cd,aM] [.bool false,vI 0] fun g h =>
 bq h b
 (aZ h b a fun i =>
 T.ah (i.add (aK h 2)) [.string,.int .u32] fun j k =>
 aZ h e d fun l =>
 T.ah (l.add (aK h 2)) [.string,.int .u32] fun m n =>
 dQ (Sx.iF (BinOp.neq) 66 (Operand.tmp 19) (Operand.tmp 23) (.agg #[.string j,.int .u32 k]) (.agg #[.string m,.int .u32 n])) fun o =>
 cond o
 bt
 (T.again 0 [.bool g,bg h]))
 dH)
theorem fC (a:Option ZC) (b c:Nat) (d:Option ZC) (e f:Nat):bI Tryz.prog [] Tryz.f119 [.slice a b c,.slice d e f]=dP a b c d e f:=ax
def kO (a:Option ZC) (b c:Nat) (d:Int) (e:Option ZC) (f g:Nat) (h:Int):T :=
 T.new [.slice a b c,.int .u32 d] 60 fun i =>
 T.new [.slice e f g,.int .u32 h] 60 fun j =>
 T.new [bd,.int .u32 0] 60 fun k =>
 T.ah (i.add 1) [.int .u32] fun l =>
 T.ah (j.add 1) [.int .u32] fun m =>
 T.new [bd,.int .u32 0] 60 fun n =>
 T.aC n [bd,.int .u32 (IntKind.wrap .u32 (l+m))] <|
 T.loop [aM,aM] [vI 0,vI 0] fun o p =>
 T.join [cd]
 (T.ah i [.slice 66] fun q r s =>
 bq o r
 (T.again 1 [.bool true])
 (T.ah j [.slice 66] fun t u v =>
 T.again 1 [.bool (decide (p<(u:Int)))])) fun q =>
 cond q
 (T.join [cd]
 (T.ah j [.slice 66] fun r s t =>
 cond (p==(s:Int))
 (T.again 1 [.bool true])
 (T.ah i [.slice 66] fun u v w =>
 bq o v
 (T.ah i [.slice 66] fun x y z =>
 aZ o y x fun A =>
 T.ah (A.add (aK o 2)) [.string] fun B =>
 T.ah j [.slice 66] fun C D E =>
 aZ p D C fun F =>
 T.ah (F.add (aK p 2)) [.string] fun G =>
 T.again 1 [.bool (Op.bytesLess (ByteArray.toList B) (ByteArray.toList G))])
 (T.again 1 [.bool false]))) fun r =>
 cond r
 (T.ah n [.slice 66] fun s t u =>
 T.ah i [.slice 66] fun v w x =>
 aZ o w v fun y =>
 T.ah (y.add (aK o 2)) [.string,.int .u32] fun z A =>
 bh (Instr.buildSlice 57 1 #[(0,.agg #[.string z,.int .u32 A])]) fun B C D =>
 T.bf [(i,[.slice v w x]),(n,[.slice s t u])] <|
 bh (Builtin.append_ #[57,57] 57 #[.slice s t u,.slice B C D]) fun E F G =>
 T.bf [((y.add (aK o 2)),[.string z,.int .u32 A]),(i,[.slice v w x])] <|
 T.aC n [.slice E F G] <|
 T.again 0 [bg o,vI p])
 (T.join [cd]
 (T.ah i [.slice 66] fun s t u =>
 cond (o==(t:Int))
 (T.again 1 [.bool true])
 (T.ah j [.slice 66] fun v w x =>
 aZ p w v fun y =>
 T.ah (y.add (aK p 2)) [.string] fun z =>
 T.ah i [.slice 66] fun A B C =>
 aZ o B A fun D =>
 T.ah (D.add (aK o 2)) [.string] fun E =>
 T.again 1 [.bool (Op.bytesLess (ByteArray.toList z) (ByteArray.toList E))])) fun s =>
 cond s
 (T.ah n [.slice 66] fun t u v =>
 T.ah j [.slice 66] fun w x y =>
 aZ p x w fun z =>
 T.ah (z.add (aK p 2)) [.string,.int .u32] fun A B =>
 bh (Instr.buildSlice 57 1 #[(0,.agg #[.string A,.int .u32 B])]) fun C D E =>
 T.bf [(j,[.slice w x y]),(n,[.slice t u v])] <|
 bh (Builtin.append_ #[57,57] 57 #[.slice t u v,.slice C D E]) fun F G H =>
 T.bf [((z.add (aK p 2)),[.string A,.int .u32 B]),(j,[.slice w x y])] <|
 T.aC n [.slice F G H] <|
 T.again 0 [vI o,bg p])
 (T.ah i [.slice 66] fun t u v =>
 aZ o u t fun w =>
 T.ah ((w.add (aK o 2)).add 1) [.int .u32] fun x =>
 T.ah j [.slice 66] fun y z A =>
 aZ p z y fun B =>
 T.ah ((B.add (aK p 2)).add 1) [.int .u32] fun C =>
 T.join []
 (cond ((IntKind.wrap .u32 (x+C)) != (0:Int))
 (T.ah n [.slice 66] fun D E F =>
 T.ah i [.slice 66] fun G H I =>
 aZ o H G fun J =>
 T.ah (J.add (aK o 2)) [.string] fun K =>
 bh (Instr.buildSlice 57 1 #[(0,.agg #[.string K,.int .u32 (IntKind.wrap .u32 (x+C))])]) fun L M N =>
 T.bf [((J.add (aK o 2)),[.string K]),(i,[.slice G H I]),(n,[.slice D E F])] <|
 bh (Builtin.append_ #[57,57] 57 #[.slice D E F,.slice L M N]) fun O P Q =>
 T.bf [((J.add (aK o 2)),[.string K]),(i,[.slice G H I])] <|
 T.aC n [.slice O P Q] <|
 T.again 1 [])
 (T.again 1 [])) <| T.again 0 [bg o,bg p])))
 (T.ah n [.slice 66,.int .u32] fun r s t u =>
 T.aC k [.slice r s t,.int .u32 u] <|
 T.ah k [.slice 66,.int .u32] fun v w x y =>
 T.ret (.agg #[.slice v w x,.int .u32 y]))
theorem qg (a:Option ZC) (b c:Nat) (d:Int) (e:Option ZC) (f g:Nat) (h:Int):bI Tryz.prog [4,5,8,1014] Tryz.f92 [.agg #[.slice a b c,.int .u32 d],.agg #[.slice e f g,.int .u32 h]]=kO a b c d e f g h:=ax
end Go.Sx
