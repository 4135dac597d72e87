/- Trees of functions. No condition. -/
import Derived.Test.YtfkjiiapldkoeaaGreatDoorSxF
import Derived.Test.YtfkjiiapldkoeaaGreatDoorProg
import Derived.KernelRfl
set_option linter.all false
set_option maxRecDepth 100000
set_option maxHeartbeats 4000000
namespace Go.Sx
open Go.Proofs
def rC (a:XA) (b:Int):T :=
 T.call Tryz.prog 145 [.string a,.int .u8 b] false [(false,[.int .i64])] fun c =>
 T.ret (vI c)
def ol (a:XA) (b:Int):bD Tryz.prog [] Tryz.f118 [.string a,.int .u8 b]=rC a b:=aB
def hP (a:XA) (b:Int):T :=
 T.fb Tryz.prog (Sx.IY 174 #[.string a,.int .u8 b]) false [(false,[.int .i64])] fun c =>
 T.ret (vI c)
def gD (a:XA) (b:Int):bD Tryz.prog [] Tryz.f145 [.string a,.int .u8 b]=hP a b:=aB
def Gl (a:XA) (b:XA):T :=
 T.loop [(false,[.int .i64])] [vI 0] fun c =>
 cond (decide (c<(a.size:Int)))
 (T.need (((0:Int)<=c)/\(c<(a.size:Int))) <|
 T.call Tryz.prog 118 [.string b,.int .u8 (aU a c)] false [(false,[.int .i64])] fun d =>
 cond (decide (d>=(0:Int)))
 (T.again 0 [vI (IntKind.wrap .i64 (c+(1:Int)))])
 (T.ret (vI c)))
 (T.ret (vI c))
def AL (a:XA) (b:XA):bD Tryz.prog [] Tryz.f82 [.string a,.string b]=Gl a b:=aB
def pS (a:XA):T :=
 cond ((a.size:Int) != (2:Int))
 (aw #[vI 0,.bool false,.bool false])
 (T.need (aZ 1 a.size) <|
 T.need (aZ 0 a.size) <|
 cond ((aU a (0:Int))==(114:Int))
 (cond (decide ((aH ((aH (aU a (1:Int)))-(48:Int)))>=(0:Int)))
 (cond (decide ((aH ((aH (aU a (1:Int)))-(48:Int)))<(8:Int)))
 (aw #[vI (aH ((aH (aU a (1:Int)))-(48:Int))),.bool false,.bool true])
 (T.need (aZ 0 a.size) <|
 cond ((aU a (0:Int))==(122:Int))
 (cond (decide ((aH ((aH (aU a (1:Int)))-(48:Int)))>=(0:Int)))
 (cond (decide ((aH ((aH (aU a (1:Int)))-(48:Int)))<(4:Int)))
 (aw #[vI (aH ((aH (aU a (1:Int)))-(48:Int))),.bool true,.bool true])
 (aw #[vI 0,.bool false,.bool false]))
 (aw #[vI 0,.bool false,.bool false]))
 (aw #[vI 0,.bool false,.bool false])))
 (T.need (aZ 0 a.size) <|
 cond ((aU a (0:Int))==(122:Int))
 (cond (decide ((aH ((aH (aU a (1:Int)))-(48:Int)))>=(0:Int)))
 (cond (decide ((aH ((aH (aU a (1:Int)))-(48:Int)))<(4:Int)))
 (aw #[vI (aH ((aH (aU a (1:Int)))-(48:Int))),.bool true,.bool true])
 (aw #[vI 0,.bool false,.bool false]))
 (aw #[vI 0,.bool false,.bool false]))
 (aw #[vI 0,.bool false,.bool false])))
 (T.need (aZ 0 a.size) <|
 cond ((aU a (0:Int))==(122:Int))
 (cond (decide ((aH ((aH (aU a (1:Int)))-(48:Int)))>=(0:Int)))
 (cond (decide ((aH ((aH (aU a (1:Int)))-(48:Int)))<(4:Int)))
 (aw #[vI (aH ((aH (aU a (1:Int)))-(48:Int))),.bool true,.bool true])
 (aw #[vI 0,.bool false,.bool false]))
 (aw #[vI 0,.bool false,.bool false]))
 (aw #[vI 0,.bool false,.bool false])))
def tM (a:XA):bD Tryz.prog [] Tryz.f81 [.string a]=pS a:=aB
def wg (a:XA):T :=
 aS 81 [.string a] true [aQ,bZ,bZ] fun b c d =>
 cond (!((ByteArray.toList a)==[]))
 (cond (decide ((a.size:Int)<=(32:Int)))
 (cU 82 [.string a,.string ⟨#[97,98,99,100,101,102,103,104,105,106,107,108,109,110,111,112,113,114,115,116,117,118,119,120,121,122,65,66,67,68,69,70,71,72,73,74,75,76,77,78,79,80,81,82,83,84,85,86,87,88,89,90,95]⟩] fun e =>
 cond (decide (e>(0:Int)))
 (cU 82 [.string a,.string ⟨#[97,98,99,100,101,102,103,104,105,106,107,108,109,110,111,112,113,114,115,116,117,118,119,120,121,122,65,66,67,68,69,70,71,72,73,74,75,76,77,78,79,80,81,82,83,84,85,86,87,88,89,90,95,48,49,50,51,52,53,54,55,56,57]⟩] fun f =>
 cond (f==(a.size:Int))
 (T.ret (.bool (!d)))
 bE)
 bE)
 bE)
 bE
def xL (a:XA):bD Tryz.prog [] Tryz.f45 [.string a]=wg a:=aB
def gY (a:XA):T :=
 cond ((a.size:Int) != (2:Int))
 (aw #[vI 0,.bool false,.bool false])
 (T.need (aZ 1 a.size) <|
 T.need (aZ 0 a.size) <|
 cond ((aU a (0:Int))==(114:Int))
 (cond (decide ((aH ((aH (aU a (1:Int)))-(48:Int)))>=(0:Int)))
 (cond (decide ((aH ((aH (aU a (1:Int)))-(48:Int)))<=(7:Int)))
 (aw #[vI (aH ((aH (aU a (1:Int)))-(48:Int))),.bool false,.bool true])
 (T.need (aZ 0 a.size) <|
 cond ((aU a (0:Int))==(122:Int))
 (cond (decide ((aH ((aH (aU a (1:Int)))-(48:Int)))>=(0:Int)))
 (cond (decide ((aH ((aH (aU a (1:Int)))-(48:Int)))<=(3:Int)))
 (aw #[vI (aH ((aH (aU a (1:Int)))-(48:Int))),.bool true,.bool true])
 (aw #[vI 0,.bool false,.bool false]))
 (aw #[vI 0,.bool false,.bool false]))
 (aw #[vI 0,.bool false,.bool false])))
 (T.need (aZ 0 a.size) <|
 cond ((aU a (0:Int))==(122:Int))
 (cond (decide ((aH ((aH (aU a (1:Int)))-(48:Int)))>=(0:Int)))
 (cond (decide ((aH ((aH (aU a (1:Int)))-(48:Int)))<=(3:Int)))
 (aw #[vI (aH ((aH (aU a (1:Int)))-(48:Int))),.bool true,.bool true])
 (aw #[vI 0,.bool false,.bool false]))
 (aw #[vI 0,.bool false,.bool false]))
 (aw #[vI 0,.bool false,.bool false])))
 (T.need (aZ 0 a.size) <|
 cond ((aU a (0:Int))==(122:Int))
 (cond (decide ((aH ((aH (aU a (1:Int)))-(48:Int)))>=(0:Int)))
 (cond (decide ((aH ((aH (aU a (1:Int)))-(48:Int)))<=(3:Int)))
 (aw #[vI (aH ((aH (aU a (1:Int)))-(48:Int))),.bool true,.bool true])
 (aw #[vI 0,.bool false,.bool false]))
 (aw #[vI 0,.bool false,.bool false]))
 (aw #[vI 0,.bool false,.bool false])))
def lf (a:XA):bD Tryz.prog [] Tryz.f89 [.string a]=gY a:=aB
def jo (a:XA):T :=
 cond (decide ((a.size:Int)<(1:Int)))
 bE
 (cond (decide ((a.size:Int)>(32:Int)))
 bE
 (T.need (aZ 0 a.size) <|
 aN 87 [.int .u8 (aU a (0:Int))] fun b =>
 cond (!b)
 bE
 (T.loop [bZ,aQ] [.bool false,vI 0] fun c d =>
 cond (decide (d<(a.size:Int)))
 (T.need (cz d a.size) <|
 aN 87 [.int .u8 (aU a d)] fun e =>
 cond (!e)
 (T.need (cz d a.size) <|
 aN 88 [.int .u8 (aU a d)] fun f =>
 cond (!f)
 bE
 (T.again 0 [.bool c,bN d]))
 (T.again 0 [.bool c,bN d]))
 (aS 89 [.string a] true [aQ,bZ,bZ] fun e f g =>
 T.ret (.bool (!g))))))
def nC (a:XA):bD Tryz.prog [] Tryz.f48 [.string a]=jo a:=aB
def iD (a:Int):T :=
 cond (decide (a>=(97:Int)))
 (cond (decide (a<=(122:Int)))
 pj
 (cond (decide (a>=(65:Int)))
 (cond (decide (a<=(90:Int)))
 pj
 (T.ret (.bool (a==(95:Int)))))
 (T.ret (.bool (a==(95:Int))))))
 (cond (decide (a>=(65:Int)))
 (cond (decide (a<=(90:Int)))
 pj
 (T.ret (.bool (a==(95:Int)))))
 (T.ret (.bool (a==(95:Int)))))
def ml (a:Int):bD Tryz.prog [] Tryz.f87 [.int .u8 a]=iD a:=aB
def js (a:Int):T :=
 cond (decide (a>=(48:Int)))
 (T.ret (.bool (decide (a<=(57:Int)))))
 bE
def mS (a:Int):bD Tryz.prog [] Tryz.f88 [.int .u8 a]=js a:=aB
def rz (a:XA) (b:XA):T :=
 T.call Tryz.prog 176 [.string a,.string b] false [(false,[.bool])] fun c =>
 T.ret (.bool c)
def oE (a:XA) (b:XA):bD Tryz.prog [] Tryz.f149 [.string a,.string b]=rz a b:=aB
def eA (a:XA) (b:XA):T :=
 cond (decide ((a.size:Int)>=(b.size:Int)))
 (T.need (((0:Int)<=(0:Int))/\(((0:Int)<=(b.size:Int))/\((b.size:Int)<=(a.size:Int)))) <|
 T.ret (.bool ((ByteArray.toList (ByteArray.extract a 0 (Int.toNat (b.size:Int))))==(ByteArray.toList b))))
 bE
def gr (a:XA) (b:XA):bD Tryz.prog [] Tryz.f176 [.string a,.string b]=eA a b:=aB
def tO (a:XA):T :=
 cU 82 [.string a,.string ⟨#[48,49,50,51,52,53,54,55,56,57]⟩] fun b =>
 aN 149 [.string a,.string ⟨#[48,120]⟩] fun c =>
 cond c
 (T.need (((0:Int)<=(2:Int))/\(((2:Int)<=(a.size:Int))/\((a.size:Int)<=(a.size:Int)))) <|
 cU 82 [.string (ByteArray.extract a 2 (Int.toNat (a.size:Int))),.string ⟨#[48,49,50,51,52,53,54,55,56,57,97,98,99,100,101,102]⟩] fun d =>
 cond (decide (d>(8:Int)))
 (aw #[vI 0,av 0])
 (T.need (((0:Int)<=(2:Int))/\(((2:Int)<=(aH ((2:Int)+d)))/\((aH ((2:Int)+d))<=(a.size:Int)))) <|
 aS 150 [.string (ByteArray.extract a 2 (Int.toNat (aH ((2 : Int) + d)))), vI 16, vI 32] true [(false, [.int .u64]), (false, [.interface #[("Error", 85)]])] fun (e : Int) (f : XB) =>
 bR (Sx.df (BinOp.neq) 29 (Operand.tmp 37) (Operand.const Value.nilIface) f .nilIface) fun g =>
 cond g
 (aw #[vI 0,av 0])
 (aw #[vI (aH ((2:Int)+d)),av (IntKind.wrap .u32 e)])))
 (cond (decide (b>(1:Int)))
 (T.need (aZ 0 a.size) <|
 cond ((aU a (0:Int))==(48:Int))
 (aw #[vI 0,av 0])
 (T.need (((0:Int)<=(0:Int))/\(((0:Int)<=(aH ((0:Int)+b)))/\((aH ((0:Int)+b))<=(a.size:Int)))) <|
 aS 150 [.string (ByteArray.extract a 0 (Int.toNat (aH ((0 : Int) + b)))), vI 10, vI 32] true [(false, [.int .u64]), (false, [.interface #[("Error", 85)]])] fun (d : Int) (e : XB) =>
 bR (Sx.df (BinOp.neq) 29 (Operand.tmp 37) (Operand.const Value.nilIface) e .nilIface) fun f =>
 cond f
 (aw #[vI 0,av 0])
 (aw #[vI (aH ((0:Int)+b)),av (IntKind.wrap .u32 d)])))
 (T.need (((0:Int)<=(0:Int))/\(((0:Int)<=(aH ((0:Int)+b)))/\((aH ((0:Int)+b))<=(a.size:Int)))) <|
 aS 150 [.string (ByteArray.extract a 0 (Int.toNat (aH ((0 : Int) + b)))), vI 10, vI 32] true [(false, [.int .u64]), (false, [.interface #[("Error", 85)]])] fun (d : Int) (e : XB) =>
 bR (Sx.df (BinOp.neq) 29 (Operand.tmp 37) (Operand.const Value.nilIface) e .nilIface) fun f =>
 cond f
 (aw #[vI 0,av 0])
 (aw #[vI (aH ((0:Int)+b)),av (IntKind.wrap .u32 d)])))
def wL (a:XA):bD Tryz.prog [] Tryz.f123 [.string a]=tO a:=aB
def tD (a:XA):T :=
 T.new [vI 0,bh,av 0,vI 0] 178 fun b =>
 T.loop [gK,aQ,aQ,gK,(false,[.pointer 0]),aQ,aQ] [aI,vI 0,vI 0,aI,.pointer (some b),vI 0,vI 0] fun c d e f g h i j k l m =>
 T.need (((0:Int)<=m)/\((m<=(a.size:Int))/\((a.size:Int)<=(a.size:Int)))) <|
 cU 82 [.string (ByteArray.extract a (Int.toNat m) (Int.toNat (a.size:Int))),.string ⟨#[9,13,32]⟩] fun n =>
 cond ((aH (m+n))==(a.size:Int))
 (aw #[.slice h i j,vI 0,vI 0])
 (T.need (((0:Int)<=(aH (m+n)))/\((aH (m+n))<(a.size:Int))) <|
 cond ((aU a (aH (m+n)))==(59:Int))
 (aw #[.slice h i j,vI 0,vI 0])
 (T.aA k fun o =>
 T.ak o [vI 0,bh,av 0,vI (aH (m+n))] <|
 T.need (((0:Int)<=(aH (m+n)))/\((aH (m+n))<(a.size:Int))) <|
 T.need (((0:Int)<=(aH (m+n)))/\(((aH (m+n))<=(a.size:Int))/\((a.size:Int)<=(a.size:Int)))) <|
 cU 82 [.string (ByteArray.extract a (Int.toNat (aH (m+n))) (Int.toNat (a.size:Int))),.string ⟨#[97,98,99,100,101,102,103,104,105,106,107,108,109,110,111,112,113,114,115,116,117,118,119,120,121,122,65,66,67,68,69,70,71,72,73,74,75,76,77,78,79,80,81,82,83,84,85,86,87,88,89,90,95]⟩] fun p =>
 cond (decide (p>(0:Int)))
 (T.aA k fun q =>
 T.ak q [vI 1] <|
 T.need (((0:Int)<=(aH (m+n)))/\(((aH (m+n))<=(a.size:Int))/\((a.size:Int)<=(a.size:Int)))) <|
 cU 82 [.string (ByteArray.extract a (Int.toNat (aH (m+n))) (Int.toNat (a.size:Int))),.string ⟨#[97,98,99,100,101,102,103,104,105,106,107,108,109,110,111,112,113,114,115,116,117,118,119,120,121,122,65,66,67,68,69,70,71,72,73,74,75,76,77,78,79,80,81,82,83,84,85,86,87,88,89,90,95,48,49,50,51,52,53,54,55,56,57]⟩] fun r =>
 cond (decide (r>(32:Int)))
 (aw #[aI,vI (aH (m+n)),vI 20])
 (T.need (((0:Int)<=(aH (m+n)))/\(((aH (m+n))<=(aH ((aH (m+n))+r)))/\((aH ((aH (m+n))+r))<=(a.size:Int)))) <|
 T.aA k fun s =>
 T.ak (s.add 1) [.string (ByteArray.extract a (Int.toNat (aH (m+n))) (Int.toNat (aH ((aH (m+n))+r))))] <|
 T.aA k fun t =>
 T.ah t [.int .i64,.string,.int .u32,.int .i64] fun u v w x =>
 aR (Instr.buildSlice 174 1 #[(0,.agg #[vI u,.string v,av w,vI x])]) fun y z A =>
 aR (Builtin.append_ #[174,174] 174 #[.slice h i j,.slice y z A]) fun B C D =>
 T.again 0 [.slice c d e,vI f,vI g,.slice B C D,.pointer k,vI r,vI (aH ((aH (m+n))+r))]))
 (T.need (((0:Int)<=(aH (m+n)))/\(((aH (m+n))<=(a.size:Int))/\((a.size:Int)<=(a.size:Int)))) <|
 cU 82 [.string (ByteArray.extract a (Int.toNat (aH (m+n))) (Int.toNat (a.size:Int))),.string ⟨#[48,49,50,51,52,53,54,55,56,57]⟩] fun q =>
 cond (decide (q>(0:Int)))
 (T.aA k fun r =>
 T.ak r [vI 2] <|
 T.need (((0:Int)<=(aH (m+n)))/\(((aH (m+n))<=(a.size:Int))/\((a.size:Int)<=(a.size:Int)))) <|
 aS 123 [.string (ByteArray.extract a (Int.toNat (aH (m+n))) (Int.toNat (a.size:Int)))] true [aQ,(false,[.int .u32])] fun s t =>
 T.aA k fun u =>
 T.ak (u.add 2) [av t] <|
 cond (s==(0:Int))
 (aw #[aI,vI (aH (m+n)),vI 20])
 (T.need (((0:Int)<=(aH ((aH (m+n))+s)))/\(((aH ((aH (m+n))+s))<=(a.size:Int))/\((a.size:Int)<=(a.size:Int)))) <|
 cU 82 [.string (ByteArray.extract a (Int.toNat (aH ((aH (m+n))+s))) (Int.toNat (a.size:Int))),.string ⟨#[97,98,99,100,101,102,103,104,105,106,107,108,109,110,111,112,113,114,115,116,117,118,119,120,121,122,65,66,67,68,69,70,71,72,73,74,75,76,77,78,79,80,81,82,83,84,85,86,87,88,89,90,95,48,49,50,51,52,53,54,55,56,57]⟩] fun v =>
 cond (decide (v>(0:Int)))
 (aw #[aI,vI (aH (m+n)),vI 20])
 (T.need (((0:Int)<=(aH (m+n)))/\(((aH (m+n))<=(aH ((aH (m+n))+s)))/\((aH ((aH (m+n))+s))<=(a.size:Int)))) <|
 T.aA k fun w =>
 T.ak (w.add 1) [.string (ByteArray.extract a (Int.toNat (aH (m+n))) (Int.toNat (aH ((aH (m+n))+s))))] <|
 T.aA k fun x =>
 T.ah x [.int .i64,.string,.int .u32,.int .i64] fun y z A B =>
 aR (Instr.buildSlice 174 1 #[(0,.agg #[vI y,.string z,av A,vI B])]) fun C D E =>
 aR (Builtin.append_ #[174,174] 174 #[.slice h i j,.slice C D E]) fun F G H =>
 T.again 0 [.slice c d e,vI f,vI g,.slice F G H,.pointer k,vI s,vI (aH ((aH (m+n))+s))])))
 (cond ((aU a (aH (m+n)))==(39:Int))
 (cond (decide ((aH ((a.size:Int)-(aH (m+n))))<(3:Int)))
 (aw #[aI,vI (aH (m+n)),vI 20])
 (T.need (((0:Int)<=(aH ((aH (m+n))+(1:Int))))/\((aH ((aH (m+n))+(1:Int)))<(a.size:Int))) <|
 cond (decide ((aU a (aH ((aH (m+n))+(1:Int))))<(32:Int)))
 (aw #[aI,vI (aH (m+n)),vI 20])
 (T.need (((0:Int)<=(aH ((aH (m+n))+(1:Int))))/\((aH ((aH (m+n))+(1:Int)))<(a.size:Int))) <|
 cond (decide ((aU a (aH ((aH (m+n))+(1:Int))))>(126:Int)))
 (aw #[aI,vI (aH (m+n)),vI 20])
 (T.need (((0:Int)<=(aH ((aH (m+n))+(1:Int))))/\((aH ((aH (m+n))+(1:Int)))<(a.size:Int))) <|
 cond ((aU a (aH ((aH (m+n))+(1:Int))))==(39:Int))
 (aw #[aI,vI (aH (m+n)),vI 20])
 (T.need (((0:Int)<=(aH ((aH (m+n))+(2:Int))))/\((aH ((aH (m+n))+(2:Int)))<(a.size:Int))) <|
 cond ((aU a (aH ((aH (m+n))+(2:Int)))) != (39:Int))
 (aw #[aI,vI (aH (m+n)),vI 20])
 (T.need (((0:Int)<=(aH ((aH (m+n))+(1:Int))))/\((aH ((aH (m+n))+(1:Int)))<(a.size:Int))) <|
 T.aA k fun r =>
 T.ak r [vI 2] <|
 T.aA k fun s =>
 T.ak (s.add 2) [av (IntKind.wrap .u32 (aU a (aH ((aH (m+n))+(1:Int)))))] <|
 T.need (((0:Int)<=(aH (m+n)))/\(((aH (m+n))<=(aH ((aH (m+n))+(3:Int))))/\((aH ((aH (m+n))+(3:Int)))<=(a.size:Int)))) <|
 T.aA k fun t =>
 T.ak (t.add 1) [.string (ByteArray.extract a (Int.toNat (aH (m+n))) (Int.toNat (aH ((aH (m+n))+(3:Int)))))] <|
 T.aA k fun u =>
 T.ah u [.int .i64,.string,.int .u32,.int .i64] fun v w x y =>
 aR (Instr.buildSlice 174 1 #[(0,.agg #[vI v,.string w,av x,vI y])]) fun z A B =>
 aR (Builtin.append_ #[174,174] 174 #[.slice h i j,.slice z A B]) fun C D E =>
 T.again 0 [.slice c d e,vI f,vI g,.slice C D E,.pointer k,vI 3,vI (aH ((aH (m+n))+(3:Int)))]))))))
 (cU 118 [.string ⟨#[58,44,40,41,43,45,42,61]⟩,.int .u8 (aU a (aH (m+n)))] fun r =>
 cond (decide (r>=(0:Int)))
 (T.aA k fun s =>
 T.ak s [vI 3] <|
 T.need (((0:Int)<=(aH (m+n)))/\(((aH (m+n))<=(aH ((aH (m+n))+(1:Int))))/\((aH ((aH (m+n))+(1:Int)))<=(a.size:Int)))) <|
 T.aA k fun t =>
 T.ak (t.add 1) [.string (ByteArray.extract a (Int.toNat (aH (m+n))) (Int.toNat (aH ((aH (m+n))+(1:Int)))))] <|
 T.aA k fun u =>
 T.ah u [.int .i64,.string,.int .u32,.int .i64] fun v w x y =>
 aR (Instr.buildSlice 174 1 #[(0,.agg #[vI v,.string w,av x,vI y])]) fun z A B =>
 aR (Builtin.append_ #[174,174] 174 #[.slice h i j,.slice z A B]) fun C D E =>
 T.again 0 [.slice c d e,vI f,vI g,.slice C D E,.pointer k,vI 1,vI (aH ((aH (m+n))+(1:Int)))])
 (aw #[aI,vI (aH (m+n)),vI 20]))))))
def wC (a:XA):bD Tryz.prog [] Tryz.f95 [.string a]=tD a:=aB
end Go.Sx
