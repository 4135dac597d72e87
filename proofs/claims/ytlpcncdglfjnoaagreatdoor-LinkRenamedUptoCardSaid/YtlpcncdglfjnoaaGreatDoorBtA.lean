/- Trees of functions. No condition. -/
import Derived.Test.YtlpcncdglfjnoaaGreatDoorSxF
import Derived.Test.YtlpcncdglfjnoaaGreatDoorProg
import Derived.KernelRfl
set_option linter.all false
set_option maxRecDepth 100000
set_option maxHeartbeats 4000000
namespace Go.Sx
open Go.Proofs
def rW (a:XA) (b:Int):T :=
 T.call YC 129 [.string a,.int .u8 b] false [(false,[.int .i64])] fun c =>
 T.ret (vI c)
def oF (a:XA) (b:Int):bQ YC [] Tryz.f120 [.string a,.int .u8 b]=rW a b:=aw
def hC (a:XA) (b:Int):T :=
 T.eK YC (Sx.GM 144 #[.string a,.int .u8 b]) false [(false,[.int .i64])] fun c =>
 T.ret (vI c)
def gi (a:XA) (b:Int):bQ YC [] Tryz.f129 [.string a,.int .u8 b]=hC a b:=aw
def Jq (a b:XA):T :=
 T.loop [(false,[.int .i64])] [vI 0] fun c =>
 cond (decide (c<(a.size:Int)))
 (T.need ((0<=c)/\(c<(a.size:Int))) <|
 T.call YC 120 [.string b,.int .u8 (cV a c)] false [(false,[.int .i64])] fun d =>
 cond (decide (d>=0))
 (T.again 0 [vI (IntKind.wrap .i64 (c+1))])
 (T.ret (vI c)))
 (T.ret (vI c))
def B1 (a b:XA):bQ YC [] Tryz.f103 [.string a,.string b]=Jq a b:=aw
def pU (a:XA):T :=
 cond ((a.size:Int) != 2)
 (bI #[vI 0,.bool false,.bool false])
 (T.need (lV 1 a.size) <|
 T.need (lV 0 a.size) <|
 cond ((cV a 0)==114)
 (cond (decide ((bf ((bf (cV a 1))-48))>=0))
 (cond (decide ((bf ((bf (cV a 1))-48))<8))
 (bI #[vI (bf ((bf (cV a 1))-48)),.bool false,.bool true])
 (T.need (lV 0 a.size) <|
 cond ((cV a 0)==122)
 (cond (decide ((bf ((bf (cV a 1))-48))>=0))
 (cond (decide ((bf ((bf (cV a 1))-48))<4))
 (bI #[vI (bf ((bf (cV a 1))-48)),.bool true,.bool true])
 (bI #[vI 0,.bool false,.bool false]))
 (bI #[vI 0,.bool false,.bool false]))
 (bI #[vI 0,.bool false,.bool false])))
 (T.need (lV 0 a.size) <|
 cond ((cV a 0)==122)
 (cond (decide ((bf ((bf (cV a 1))-48))>=0))
 (cond (decide ((bf ((bf (cV a 1))-48))<4))
 (bI #[vI (bf ((bf (cV a 1))-48)),.bool true,.bool true])
 (bI #[vI 0,.bool false,.bool false]))
 (bI #[vI 0,.bool false,.bool false]))
 (bI #[vI 0,.bool false,.bool false])))
 (T.need (lV 0 a.size) <|
 cond ((cV a 0)==122)
 (cond (decide ((bf ((bf (cV a 1))-48))>=0))
 (cond (decide ((bf ((bf (cV a 1))-48))<4))
 (bI #[vI (bf ((bf (cV a 1))-48)),.bool true,.bool true])
 (bI #[vI 0,.bool false,.bool false]))
 (bI #[vI 0,.bool false,.bool false]))
 (bI #[vI 0,.bool false,.bool false])))
def uz (a:XA):bQ YC [] Tryz.f102 [.string a]=pU a:=aw
def xN (a:XA):T :=
 bq 102 [.string a] true [aK,cj,cj] fun b c d =>
 cond (!((ByteArray.toList a)==[]))
 (cond (decide ((a.size:Int)<=32))
 (dh 103 [.string a,.string ⟨#[97,98,99,100,101,102,103,104,105,106,107,108,109,110,111,112,113,114,115,116,117,118,119,120,121,122,65,66,67,68,69,70,71,72,73,74,75,76,77,78,79,80,81,82,83,84,85,86,87,88,89,90,95]⟩] fun e =>
 cond (decide (e>0))
 (dh 103 [.string a,.string ⟨#[97,98,99,100,101,102,103,104,105,106,107,108,109,110,111,112,113,114,115,116,117,118,119,120,121,122,65,66,67,68,69,70,71,72,73,74,75,76,77,78,79,80,81,82,83,84,85,86,87,88,89,90,95,48,49,50,51,52,53,54,55,56,57]⟩] fun f =>
 cond (f==(a.size:Int))
 (T.ret (.bool (!d)))
 bz)
 bz)
 bz)
 bz
def zd (a:XA):bQ YC [] Tryz.f79 [.string a]=xN a:=aw
def gU (a:XA):T :=
 cond ((a.size:Int) != 2)
 (bI #[vI 0,.bool false,.bool false])
 (T.need (lV 1 a.size) <|
 T.need (lV 0 a.size) <|
 cond ((cV a 0)==114)
 (cond (decide ((bf ((bf (cV a 1))-48))>=0))
 (cond (decide ((bf ((bf (cV a 1))-48))<=7))
 (bI #[vI (bf ((bf (cV a 1))-48)),.bool false,.bool true])
 (T.need (lV 0 a.size) <|
 cond ((cV a 0)==122)
 (cond (decide ((bf ((bf (cV a 1))-48))>=0))
 (cond (decide ((bf ((bf (cV a 1))-48))<=3))
 (bI #[vI (bf ((bf (cV a 1))-48)),.bool true,.bool true])
 (bI #[vI 0,.bool false,.bool false]))
 (bI #[vI 0,.bool false,.bool false]))
 (bI #[vI 0,.bool false,.bool false])))
 (T.need (lV 0 a.size) <|
 cond ((cV a 0)==122)
 (cond (decide ((bf ((bf (cV a 1))-48))>=0))
 (cond (decide ((bf ((bf (cV a 1))-48))<=3))
 (bI #[vI (bf ((bf (cV a 1))-48)),.bool true,.bool true])
 (bI #[vI 0,.bool false,.bool false]))
 (bI #[vI 0,.bool false,.bool false]))
 (bI #[vI 0,.bool false,.bool false])))
 (T.need (lV 0 a.size) <|
 cond ((cV a 0)==122)
 (cond (decide ((bf ((bf (cV a 1))-48))>=0))
 (cond (decide ((bf ((bf (cV a 1))-48))<=3))
 (bI #[vI (bf ((bf (cV a 1))-48)),.bool true,.bool true])
 (bI #[vI 0,.bool false,.bool false]))
 (bI #[vI 0,.bool false,.bool false]))
 (bI #[vI 0,.bool false,.bool false])))
def ld (a:XA):bQ YC [] Tryz.f77 [.string a]=gU a:=aw
def jt (a:XA):T :=
 cond (decide ((a.size:Int)<1))
 bz
 (cond (decide ((a.size:Int)>32))
 bz
 (T.need (lV 0 a.size) <|
 aP 75 [.int .u8 (cV a 0)] fun b =>
 cond (!b)
 bz
 (T.loop [cj,aK] [.bool false,vI 0] fun c d =>
 cond (decide (d<(a.size:Int)))
 (T.need (eH d a.size) <|
 aP 75 [.int .u8 (cV a d)] fun e =>
 cond (!e)
 (T.need (eH d a.size) <|
 aP 76 [.int .u8 (cV a d)] fun f =>
 cond (!f)
 bz
 (T.again 0 [.bool c,bo d]))
 (T.again 0 [.bool c,bo d]))
 (bq 77 [.string a] true [aK,cj,cj] fun e f g =>
 T.ret (.bool (!g))))))
def nY (a:XA):bQ YC [] Tryz.f35 [.string a]=jt a:=aw
def iH (a:Int):T :=
 cond (decide (a>=97))
 (cond (decide (a<=122))
 dI
 (cond (decide (a>=65))
 (cond (decide (a<=90))
 dI
 (T.ret (.bool (a==95))))
 (T.ret (.bool (a==95)))))
 (cond (decide (a>=65))
 (cond (decide (a<=90))
 dI
 (T.ret (.bool (a==95))))
 (T.ret (.bool (a==95))))
def mI (a:Int):bQ YC [] Tryz.f75 [.int .u8 a]=iH a:=aw
def jv (a:Int):T :=
 cond (decide (a>=48))
 (T.ret (.bool (decide (a<=57))))
 bz
def nt (a:Int):bQ YC [] Tryz.f76 [.int .u8 a]=jv a:=aw
def xM (a:Option Nat) (b:Int):T :=
 T.new [aM,ar 0] 60 fun c =>
 T.new [aM,ar 0] 60 fun d =>
 T.ao d [aM,ar b] <|
 bq 109 [.map a] false [(false,[.func #[86] #[] false])] fun (e:XB) =>
 bq 108 [e] false [(false,[.slice 9])] fun f g h =>
 T.loop [aK] [vI 0] fun i =>
 bC i g
 (aT i g f fun j =>
 T.ae (j.add (ay i 1)) [.string] fun k =>
 bR (Instr.lookup 170 (.map a) (.string k) false) false [(false,[.int .u32])] fun l =>
 cond (l != 0)
 (T.ae d [.slice 66] fun m n o =>
 bR (Instr.lookup 170 (.map a) (.string k) false) false [(false,[.int .u32])] fun p =>
 aR (Instr.buildSlice 57 1 #[(0,.agg #[.string k,ar p])]) fun q r s =>
 aR (Builtin.append_ #[57,57] 57 #[.slice m n o,.slice q r s]) fun t u v =>
 T.ao d [.slice t u v] <|
 T.again 0 [bo i])
 (T.again 0 [bo i]))
 (T.ae d (yL 66) fun j k l m =>
 T.ao c [.slice j k l,ar m] <|
 T.ae c (yL 66) fun n o p q =>
 T.ret (.agg #[.slice n o p,ar q]))
def yT (a:Option Nat) (b:Int):bQ YC [] Tryz.f110 [.map a,.int .u32 b]=xM a b:=aw
def zB (a:XC) (b c:Nat) (d:Int) (e:XC) (f g:Nat) (h:Int):T :=
 T.new [.slice a b c,ar d] 60 fun i =>
 T.new [.slice e f g,ar h] 60 fun j =>
 T.new [aM,ar 0] 60 fun k =>
 bR (Instr.makeMap 170 none) false [(false,[.map 0 0])] fun l =>
 T.ae i [.slice 66] fun m n o =>
 T.ae j [.slice 66] fun p q r =>
 aR (Instr.buildSlice 175 2 #[(0,.slice m n o),(1,.slice p q r)]) fun s t u =>
 T.loop [aK] [vI 0] fun v =>
 bC v t
 (aT v t s fun w =>
 T.ae (w.add (ay v 1)) [.slice 66] fun x y z =>
 T.loop [aK] [vI 0] fun A =>
 bC A y
 (aT A y x fun B =>
 T.ae (B.add (ay A 2)) [.string,.int .u32] fun C D =>
 T.new [ct,ar 0] 66 fun E =>
 T.ao E [.string C,ar D] <|
 T.ae E [.string] fun F =>
 bR (Instr.lookup 170 (.map l) (.string F) false) false [(false,[.int .u32])] fun G =>
 T.ae (E.add 1) [.int .u32] fun H =>
 T.ek YC (Instr.mapUpdate 170 (.map l) (.string F) (ar (IntKind.wrap .u32 (G+H)))) <|
 T.again 1 [bo A])
 (T.again 0 [bo v]))
 (T.ae (i.add 1) [.int .u32] fun w =>
 T.ae (j.add 1) [.int .u32] fun x =>
 bq 110 [.map l,ar (IntKind.wrap .u32 (w+x))] false [(true,(yL 66))] fun y z A B =>
 T.ao k [.slice y z A,ar B] <|
 T.ae k (yL 66) fun C D E F =>
 T.ret (.agg #[.slice C D E,ar F]))
def Al (a:XC) (b c:Nat) (d:Int) (e:XC) (f g:Nat) (h:Int):bQ YC [] Tryz.f87 [.agg #[.slice a b c,.int .u32 d],.agg #[.slice e f g,.int .u32 h]]=zB a b c d e f g h:=aw
def jz (a:XC) (b c:Nat) (d:Int):T :=
 T.new [.slice a b c,ar d] 60 fun e =>
 T.loop [cj,aK] [.bool false,vI 0] fun f g =>
 T.ae e [.slice 66] fun h i j =>
 bC g i
 (T.ae e [.slice 66] fun k l m =>
 aT g l k fun n =>
 T.ae (n.add (ay g 2)) [.string] fun o =>
 aP 35 [.string o] fun p =>
 T.az [(e,[.slice k l m])] <|
 cond (!p)
 bz
 (T.ae e [.slice 66] fun q r s =>
 aT g r q fun t =>
 T.ae ((t.add (ay g 2)).add 1) [.int .u32] fun u =>
 cond (u==0)
 bz
 (cond (decide (g>0))
 (T.ae e [.slice 66] fun v w x =>
 aT g w v fun y =>
 T.ae (y.add (ay g 2)) [.string] fun z =>
 T.ae e [.slice 66] fun A B C =>
 T.need ((0<=(bf (g-1)))/\((bf (g-1))<(B:Int))) <|
 T.bd A fun D =>
 T.ae (D.add ((Int.toNat (bf (g-1)))*2)) [.string] fun E =>
 cond ((Op.bytesLess (ByteArray.toList z) (ByteArray.toList E)) || ((ByteArray.toList z)==(ByteArray.toList E)))
 bz
 (T.again 0 [.bool f,bo g]))
 (T.again 0 [.bool f,bo g]))))
 dI
def nF (a:XC) (b c:Nat) (d:Int):bQ YC [] Tryz.f36 [.agg #[.slice a b c,.int .u32 d]]=jz a b c d:=aw
def uc (a:XC) (b c:Nat) (d:Int):T :=
 T.new [.slice a b c,ar d] 60 fun e =>
 T.ae e [.slice 66] fun f g h =>
 T.loop [cj,aK] [.bool false,vI 0] fun i j =>
 bC j g
 (aT j g f fun k =>
 T.ae (k.add (ay j 2)) [.string,.int .u32] fun l m =>
 T.new [ct,ar 0] 66 fun n =>
 T.ao n [.string l,ar m] <|
 T.ae (n.add 1) [.int .u32] fun o =>
 cond (o==0)
 bz
 (T.ae n [.string] fun p =>
 aP 79 [.string p] fun q =>
 T.az [((n.add 1),[ar o])] <|
 cond (!q)
 bz
 (cond (decide (j>0))
 (T.ae n [.string] fun r =>
 T.ae e [.slice 66] fun s t u =>
 T.need ((0<=(bf (j-1)))/\((bf (j-1))<(t:Int))) <|
 T.bd s fun v =>
 T.ae (v.add ((Int.toNat (bf (j-1)))*2)) [.string] fun w =>
 cond ((Op.bytesLess (ByteArray.toList r) (ByteArray.toList w)) || ((ByteArray.toList r)==(ByteArray.toList w)))
 bz
 (T.again 0 [.bool i,bo j]))
 (T.again 0 [.bool i,bo j]))))
 dI
def x7 (a:XC) (b c:Nat) (d:Int):bQ YC [] Tryz.f80 [.agg #[.slice a b c,.int .u32 d]]=uc a b c d:=aw
def xA (a:XC) (b c:Nat) (d:Int) (e:XC) (f g:Nat) (h:Int):T :=
 T.new [.slice a b c,ar d] 60 fun i =>
 T.new [.slice e f g,ar h] 60 fun j =>
 T.ae (i.add 1) [.int .u32] fun k =>
 T.ae (j.add 1) [.int .u32] fun l =>
 cond (k==l)
 (T.ae i [.slice 66] fun m n o =>
 T.ae j [.slice 66] fun p q r =>
 aP 119 [.slice m n o,.slice p q r] fun s =>
 T.ret (.bool s))
 bz
def zt (a:XC) (b c:Nat) (d:Int) (e:XC) (f g:Nat) (h:Int):bQ YC [] Tryz.f101 [.agg #[.slice a b c,.int .u32 d],.agg #[.slice e f g,.int .u32 h]]=xA a b c d e f g h:=aw
def jT (a:XC) (b c:Nat) (d:Int) (e:XC) (f g:Nat) (h:Int):T :=
 T.new [.slice a b c,ar d] 60 fun i =>
 T.new [.slice e f g,ar h] 60 fun j =>
 T.ae (i.add 1) [.int .u32] fun k =>
 T.ae (j.add 1) [.int .u32] fun l =>
 cond (k != l)
 bz
 (T.ae i [.slice 66] fun m n o =>
 T.ae j [.slice 66] fun p q r =>
 cond ((n:Int) != (q:Int))
 bz
 (T.loop [cj,aK] [.bool false,vI 0] fun s t =>
 T.ae i [.slice 66] fun u v w =>
 bC t v
 (T.ae i [.slice 66] fun x y z =>
 aT t y x fun A =>
 T.ae (A.add (ay t 2)) [.string,.int .u32] fun B C =>
 T.ae j [.slice 66] fun D E F =>
 aT t E D fun G =>
 T.ae (G.add (ay t 2)) [.string,.int .u32] fun H I =>
 eh (Sx.j6 (BinOp.neq) 66 (Operand.tmp 31) (Operand.tmp 36) (.agg #[.string B,ar C]) (.agg #[.string H,ar I])) fun J =>
 T.az [(j,[.slice D E F]),(i,[.slice x y z])] <|
 cond J
 bz
 (T.again 0 [.bool s,bo t]))
 dI))
def ou (a:XC) (b c:Nat) (d:Int) (e:XC) (f g:Nat) (h:Int):bQ YC [] Tryz.f88 [.agg #[.slice a b c,.int .u32 d],.agg #[.slice e f g,.int .u32 h]]=jT a b c d e f g h:=aw
def dU (a:XC) (b c:Nat) (d:XC) (e f:Nat):T :=
 cond ((b:Int) != (e:Int))
 bz
 (T.loop [cj,aK] [.bool false,vI 0] fun g h =>
 bC h b
 (aT h b a fun i =>
 T.ae (i.add (ay h 2)) [.string,.int .u32] fun j k =>
 aT h e d fun l =>
 T.ae (l.add (ay h 2)) [.string,.int .u32] fun m n =>
 eh (Sx.j6 (BinOp.neq) 66 (Operand.tmp 19) (Operand.tmp 23) (.agg #[.string j,ar k]) (.agg #[.string m,ar n])) fun o =>
 cond o
 bz
 (T.again 0 [.bool g,bo h]))
 dI)
def fA (a:XC) (b c:Nat) (d:XC) (e f:Nat):bQ YC [] Tryz.f119 [.slice a b c,.slice d e f]=dU a b c d e f:=aw
def DA (a:Int):T :=
 T.new [ct,.int .u8 0,vI 0] 165 fun b =>
 cond (decide (a<1))
 (T.ao b [ct,.int .u8 0,vI 0] <|
 T.ae b [.string,.int .u8,.int .i64] fun c d e =>
 bI #[.agg #[.string c,.int .u8 d,vI e],.bool false])
 (cond (decide (a>43))
 (T.ao b [ct,.int .u8 0,vI 0] <|
 T.ae b [.string,.int .u8,.int .i64] fun c d e =>
 bI #[.agg #[.string c,.int .u8 d,vI e],.bool false])
 (T.need ((0<=(bf (a-1)))/\((bf (a-1))<43)) <|
 T.ae ((⟨0,0,none⟩:YA).add ((Int.toNat (bf (a-1)))*3)) [.string,.int .u8,.int .i64] fun c d e =>
 T.ao b [.string c,.int .u8 d,vI e] <|
 T.ae b [.string,.int .u8,.int .i64] fun f g h =>
 bI #[.agg #[.string f,.int .u8 g,vI h],.bool true]))
def EZ (a:Int):bQ YC [] Tryz.f105 [vI a]=DA a:=aw
def xD (a:Int):T :=
 bq 105 [vI a] true [(true,[.string,.int .u8,.int .i64]),cj] fun b c d e =>
 T.new [ct,.int .u8 0,vI 0] 165 fun f =>
 T.ao f [.string b,.int .u8 c,vI d] <|
 T.ae (f.add 2) [.int .i64] fun g =>
 cond (g==12)
 dI
 (T.ae (f.add 2) [.int .i64] fun h =>
 T.ret (.bool (h==13)))
def yW (a:Int):bQ YC [] Tryz.f82 [vI a]=xD a:=aw
def xj (a b:Int):T :=
 cond (decide (a>=0))
 (T.ret (.bool (decide (a<b))))
 bz
def zW (a b:Int):bQ YC [] Tryz.f142 [vI a,vI b]=xj a b:=aw
def sC (a b:Int):T :=
 cond (b==1)
 (T.ret (.bool (a==(IntKind.wrap .i32 (IntKind.wrap .i8 a)))))
 (cond (b==2)
 (T.ret (.bool (a==(IntKind.wrap .i32 (IntKind.wrap .i16 a)))))
 (T.ret (.bool (b==4))))
def wK (a b:Int):bQ YC [] Tryz.f143 [.int .i32 a,vI b]=sC a b:=aw
def xK (a b c d e:Int):T :=
 T.new [vI a,vI b,vI c,.int .i32 d,vI e] 62 fun f =>
 T.ae f [.int .i64] fun g =>
 bq 105 [vI g] true [(true,[.string,.int .u8,.int .i64]),cj] fun h i j k =>
 T.new [ct,.int .u8 0,vI 0] 165 fun l =>
 T.ao l [.string h,.int .u8 i,vI j] <|
 cond (!k)
 (T.ret (vI 11))
 (T.ae f [.int .i64,.int .i64,.int .i64,.int .i32,.int .i64] fun m n o p q =>
 T.ae (l.add 2) [.int .i64] fun r =>
 aP 127 [.agg #[vI m,vI n,vI o,.int .i32 p,vI q],vI r] fun s =>
 cond (!s)
 (T.ret (vI 12))
 (T.ae f [.int .i64] fun t =>
 aP 82 [vI t] fun u =>
 cond (!u)
 (T.ae (f.add 4) [.int .i64] fun v =>
 cond (v != 0)
 (T.ret (vI 13))
 (T.ae f [.int .i64,.int .i64,.int .i64,.int .i32,.int .i64] fun w x y z A =>
 T.ae (l.add 2) [.int .i64] fun B =>
 aP 128 [.agg #[vI w,vI x,vI y,.int .i32 z,vI A],vI B] fun C =>
 cond (!C)
 (T.ret (vI 13))
 (T.ret (vI 0))))
 (T.ae f [.int .i64,.int .i64,.int .i64,.int .i32,.int .i64] fun v w x y z =>
 T.ae (l.add 2) [.int .i64] fun A =>
 aP 128 [.agg #[vI v,vI w,vI x,.int .i32 y,vI z],vI A] fun B =>
 cond (!B)
 (T.ret (vI 13))
 (T.ret (vI 0)))))
def zq (a b c d e:Int):bQ YC [] Tryz.f118 [.agg #[vI a,vI b,vI c,.int .i32 d,vI e]]=xK a b c d e:=aw
def uR (a:Int):T :=
 cond (decide (a>=1))
 (cond (decide (a<=256))
 (T.ret (.bool ((bf (((BitVec.toNat ((BitVec.ofInt 64 a) &&& (BitVec.ofInt 64 (bf (a-1))))):Nat):Int))==0)))
 bz)
 bz
def x8 (a:Int):bQ YC [] Tryz.f100 [vI a]=uR a:=aw
def kX (a:Int) (b:XA) (c d e f g:Int) (h:XC) (i j:Nat) (k l:Int):T :=
 T.new [vI a,.string b,vI c,vI d,vI e,.int .i32 f,vI g,.slice h i j,ar k,vI l] 64 fun m =>
 T.ae (m.add 2) [.int .i64] fun n =>
 bq 105 [vI n] true [(true,[.string,.int .u8,.int .i64]),cj] fun o p q r =>
 T.new [ct,.int .u8 0,vI 0] 165 fun s =>
 T.ao s [.string o,.int .u8 p,vI q] <|
 cond (!r)
 bz
 (T.ae ((m.add 2).add 4) [.int .i64] fun t =>
 cond (t != 0)
 bz
 (T.ae (m.add 2) [.int .i64,.int .i64,.int .i64,.int .i32,.int .i64] fun u v w x y =>
 T.new [vI 0,vI 0,vI 0,.int .i32 0,vI 0] 62 fun z =>
 T.ao z [vI u,vI v,vI w,.int .i32 x,vI y] <|
 T.ae (s.add 2) [.int .i64] fun A =>
 cond (A==12)
 (cond (A==12)
 (T.ao (z.add 4) [vI 1] <|
 T.ae ((m.add 2).add 3) [.int .i32] fun B =>
 cond (B==0)
 (T.ae z [.int .i64,.int .i64,.int .i64,.int .i32,.int .i64] fun C D E F G =>
 dh 118 [.agg #[vI C,vI D,vI E,.int .i32 F,vI G]] fun H =>
 cond (H==0)
 (T.ae (m.add 7) (yL 66) fun I J K L =>
 aP 80 [.agg #[.slice I J K,ar L]] fun M =>
 T.ret (.bool M))
 bz)
 bz)
 (cond (A==10)
 (cond (A==10)
 (T.ae ((m.add 2).add 3) [.int .i32] fun B =>
 cond (B==0)
 (T.ae z [.int .i64,.int .i64,.int .i64,.int .i32,.int .i64] fun C D E F G =>
 dh 118 [.agg #[vI C,vI D,vI E,.int .i32 F,vI G]] fun H =>
 cond (H==0)
 (T.ae (m.add 7) (yL 66) fun I J K L =>
 aP 80 [.agg #[.slice I J K,ar L]] fun M =>
 T.ret (.bool M))
 bz)
 bz)
 (T.ae z [.int .i64,.int .i64,.int .i64,.int .i32,.int .i64] fun B C D E F =>
 dh 118 [.agg #[vI B,vI C,vI D,.int .i32 E,vI F]] fun G =>
 cond (G==0)
 (T.ae (m.add 7) (yL 66) fun H I J K =>
 aP 101 [.agg #[.slice H I J,ar K],.agg #[aM,ar 0]] fun L =>
 T.ret (.bool L))
 bz))
 (cond (A==11)
 (T.ae ((m.add 2).add 3) [.int .i32] fun B =>
 cond (B==0)
 (T.ae z [.int .i64,.int .i64,.int .i64,.int .i32,.int .i64] fun C D E F G =>
 dh 118 [.agg #[vI C,vI D,vI E,.int .i32 F,vI G]] fun H =>
 cond (H==0)
 (T.ae (m.add 7) (yL 66) fun I J K L =>
 aP 80 [.agg #[.slice I J K,ar L]] fun M =>
 T.ret (.bool M))
 bz)
 bz)
 (T.ae z [.int .i64,.int .i64,.int .i64,.int .i32,.int .i64] fun B C D E F =>
 dh 118 [.agg #[vI B,vI C,vI D,.int .i32 E,vI F]] fun G =>
 cond (G==0)
 (T.ae (m.add 7) (yL 66) fun H I J K =>
 aP 101 [.agg #[.slice H I J,ar K],.agg #[aM,ar 0]] fun L =>
 T.ret (.bool L))
 bz))))
 (cond (A==13)
 (T.ao (z.add 4) [vI 1] <|
 T.ae ((m.add 2).add 3) [.int .i32] fun B =>
 cond (B==0)
 (T.ae z [.int .i64,.int .i64,.int .i64,.int .i32,.int .i64] fun C D E F G =>
 dh 118 [.agg #[vI C,vI D,vI E,.int .i32 F,vI G]] fun H =>
 cond (H==0)
 (T.ae (m.add 7) (yL 66) fun I J K L =>
 aP 80 [.agg #[.slice I J K,ar L]] fun M =>
 T.ret (.bool M))
 bz)
 bz)
 (cond (A==10)
 (cond (A==10)
 (T.ae ((m.add 2).add 3) [.int .i32] fun B =>
 cond (B==0)
 (T.ae z [.int .i64,.int .i64,.int .i64,.int .i32,.int .i64] fun C D E F G =>
 dh 118 [.agg #[vI C,vI D,vI E,.int .i32 F,vI G]] fun H =>
 cond (H==0)
 (T.ae (m.add 7) (yL 66) fun I J K L =>
 aP 80 [.agg #[.slice I J K,ar L]] fun M =>
 T.ret (.bool M))
 bz)
 bz)
 (T.ae z [.int .i64,.int .i64,.int .i64,.int .i32,.int .i64] fun B C D E F =>
 dh 118 [.agg #[vI B,vI C,vI D,.int .i32 E,vI F]] fun G =>
 cond (G==0)
 (T.ae (m.add 7) (yL 66) fun H I J K =>
 aP 101 [.agg #[.slice H I J,ar K],.agg #[aM,ar 0]] fun L =>
 T.ret (.bool L))
 bz))
 (cond (A==11)
 (T.ae ((m.add 2).add 3) [.int .i32] fun B =>
 cond (B==0)
 (T.ae z [.int .i64,.int .i64,.int .i64,.int .i32,.int .i64] fun C D E F G =>
 dh 118 [.agg #[vI C,vI D,vI E,.int .i32 F,vI G]] fun H =>
 cond (H==0)
 (T.ae (m.add 7) (yL 66) fun I J K L =>
 aP 80 [.agg #[.slice I J K,ar L]] fun M =>
 T.ret (.bool M))
 bz)
 bz)
 (T.ae z [.int .i64,.int .i64,.int .i64,.int .i32,.int .i64] fun B C D E F =>
 dh 118 [.agg #[vI B,vI C,vI D,.int .i32 E,vI F]] fun G =>
 cond (G==0)
 (T.ae (m.add 7) (yL 66) fun H I J K =>
 aP 101 [.agg #[.slice H I J,ar K],.agg #[aM,ar 0]] fun L =>
 T.ret (.bool L))
 bz))))))
def pC (a:Int) (b:XA) (c d e f g:Int) (h:XC) (i j:Nat) (k l:Int):bQ YC [] Tryz.f99 [.agg #[vI a,.string b,vI c,vI d,vI e,.int .i32 f,vI g,.slice h i j,.int .u32 k,vI l]]=kX a b c d e f g h i j k l:=aw
def vL (a:XC) (b c:Nat) (d:XC) (e f:Nat) (g:XC) (h i:Nat) (j:XC) (k l:Nat):T :=
 T.new [.slice a b c,.slice d e f,.slice g h i,.slice j k l] 30 fun m =>
 T.ae m [.slice 64] fun n o p =>
 T.ae (m.add 1) [.slice 64] fun q r s =>
 cond (decide ((bf ((o:Int)+(r:Int)))>8192))
 (T.ret (vI 4))
 (T.ae (m.add 2) [.slice 88] fun t u v =>
 cond (decide ((u:Int)>8192))
 (T.ret (vI 4))
 (bR (Instr.makeMap 142 none) false [(false,[.map 0 0])] fun w =>
 T.ae m [.slice 64] fun x y z =>
 T.ae (m.add 1) [.slice 64] fun A B C =>
 aR (Instr.buildSlice 68 2 #[(0,.slice x y z),(1,.slice A B C)]) fun D E F =>
 T.loop [aK,aK] [vI 0,vI 0] fun G H =>
 bC H E
 (aT H E D fun I =>
 T.ae (I.add (ay H 1)) [.slice 64] fun J K L =>
 T.loop [aK,aK] [vI G,vI 0] fun M N =>
 bC N K
 (aT N K J fun O =>
 T.ae (O.add (ay N 10)) (yI 66) fun P Q R S U V W X Y Z a0 a1 =>
 T.new [vI 0,ct,vI 0,vI 0,vI 0,.int .i32 0,vI 0,aM,ar 0,vI 0] 64 fun a2 =>
 T.ao a2 [vI P,.string Q,vI R,vI S,vI U,.int .i32 V,vI W,.slice X Y Z,ar a0,vI a1] <|
 T.ae a2 (yI 66) fun a3 a4 a5 a6 a7 a8 a9 b0 b1 b2 b3 b4 =>
 dh 78 [.agg #[vI a3,.string a4,vI a5,vI a6,vI a7,.int .i32 a8,vI a9,.slice b0 b1 b2,ar b3,vI b4],vI H] fun b5 =>
 cond (b5 != 0)
 (T.ret (vI 31))
 (T.ae a2 [.int .i64] fun b6 =>
 cond (b6==1)
 (T.ae (a2.add 1) [.string] fun b7 =>
 eh (Instr.lookup 142 (.map w) (.string b7) false) fun b8 =>
 cond b8
 (T.ret (vI 31))
 (T.ae a2 [.int .i64] fun b9 =>
 cond (b9==1)
 (T.ae (a2.add 1) [.string] fun c0 =>
 T.ek YC (Instr.mapUpdate 142 (.map w) (.string c0) (.bool true)) <|
 T.again 1 [vI M,bo N])
 (T.again 1 [vI M,bo N])))
 (T.ae a2 [.int .i64] fun b7 =>
 cond (b7==1)
 (T.ae (a2.add 1) [.string] fun b8 =>
 T.ek YC (Instr.mapUpdate 142 (.map w) (.string b8) (.bool true)) <|
 T.again 1 [vI M,bo N])
 (T.again 1 [vI M,bo N]))))
 (T.again 0 [vI M,bo H]))
 (T.ae (m.add 2) [.slice 88] fun I J K =>
 T.loop [aK,aK] [vI G,vI 0] fun L M =>
 bC M J
 (aT M J I fun N =>
 T.ae (N.add (ay M 3)) [.string,.slice 66,.int .u32] fun O P Q R S =>
 T.new [ct,aM,ar 0] 88 fun U =>
 T.ao U [.string O,.slice P Q R,ar S] <|
 T.ae U [.string] fun V =>
 eh (Instr.lookup 142 (.map w) (.string V) false) fun W =>
 cond W
 (T.ret (vI 31))
 (T.ae U [.string] fun X =>
 aP 79 [.string X] fun Y =>
 cond (!Y)
 (T.ret (vI 31))
 (T.ae (U.add 1) (yL 66) fun Z a0 a1 a2 =>
 aP 80 [.agg #[.slice Z a0 a1,ar a2]] fun a3 =>
 cond (!a3)
 (T.ret (vI 31))
 (T.ae U [.string] fun a4 =>
 T.ek YC (Instr.mapUpdate 142 (.map w) (.string a4) (.bool true)) <|
 T.again 1 [vI L,bo M]))))
 (T.ae (m.add 3) [.slice 9] fun N O P =>
 T.loop [aK,aK] [vI L,vI 0] fun Q R =>
 bC R O
 (aT R O N fun S =>
 T.ae (S.add (ay R 1)) [.string] fun U =>
 eh (Instr.lookup 142 (.map w) (.string U) false) fun V =>
 cond (!V)
 (T.ret (vI 31))
 (cond (decide (R>0))
 (T.ae (m.add 3) [.slice 9] fun W X Y =>
 T.need ((0<=(bf (R-1)))/\((bf (R-1))<(X:Int))) <|
 T.bd W fun Z =>
 T.ae (Z.add ((Int.toNat (bf (R-1)))*1)) [.string] fun a0 =>
 cond ((Op.bytesLess (ByteArray.toList U) (ByteArray.toList a0)) || ((ByteArray.toList U)==(ByteArray.toList a0)))
 (T.ret (vI 31))
 (T.again 2 [vI Q,bo R]))
 (T.again 2 [vI Q,bo R])))
 (T.ret (vI 0))))))
def ye (a:XC) (b c:Nat) (d:XC) (e f:Nat) (g:XC) (h i:Nat) (j:XC) (k l:Nat):bQ YC [] Tryz.f42 [.agg #[.slice a b c,.slice d e f,.slice g h i,.slice j k l]]=vL a b c d e f g h i j k l:=aw
end Go.Sx
